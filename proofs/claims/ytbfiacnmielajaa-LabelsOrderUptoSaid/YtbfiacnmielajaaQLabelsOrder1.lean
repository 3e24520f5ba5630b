/- LabelsOrder: the part that this text bears of the proof that the statement answers true for every input. No condition. -/
import Derived.Test.YtbfiacnmielajaaProg
import Derived.Below
import Derived.Deep.Draws
import Derived.Deep.AppendLies
import Derived.Maps.AppendAt
import Derived.OwnWalk
import Derived.Laws.BytesArg
import Derived.Laws.MakeOwn
import Derived.Laws.OwnMore
import Derived.Deep.OwnRows
import Derived.Tactics
import Derived.Lib.ConvBytes
import Derived.Laws.Slices
import Derived.WalkKit
import Derived.KernelRfl
import Derived.RowKit3
import Derived.Deep.LoopGhost
import Derived.Deep.QuietTactic
import Derived.BigQuiet
import Derived.WideLaws
import Derived.Deep.DeepCutAuto
import Derived.Deep.CutBlock
import Derived.Deep.RegionHeld3
import Derived.Laws.Rows
import Derived.Lib.AppendStr
import Derived.ArgAppend
import Derived.Laws.IdiomCopy
import Derived.OrdersHeld
import Derived.Laws.BitsLemmas
import Derived.RowKit
import Derived.Laws.Strings
import Derived.Laws.Cover1
import Derived.Shelf.Lays
import Derived.Shelf.Strings.Builder1
import Derived.Shelf.Strings.OnBuilder
import Derived.DataReads
import Derived.RegionTactic
import Derived.ChangeKeysEq
import Derived.ChangeAlike
import Derived.BigRegion
import Derived.StillTailTactics
import Derived.Shelf.Strings.Search3
import Derived.Shelf.Small.Strs
import Derived.Deep.Slices
import Derived.ChangeArms
import Derived.ProofKit
import Derived.JoinedOf
import Derived.OpenShut
import Derived.ShutString
import Derived.ChangeOld
import Derived.SizedLaws
import Derived.Test.YtbfiacnmielajaaQLabelsOrderWWords
import Derived.Test.YtbfiacnmielajaaQLabelsOrderWLast
import Derived.Test.YtbfiacnmielajaaQLabelsOrderWTab
import Derived.Test.YtbfiacnmielajaaQLabelsOrderWFour
import Derived.Test.YtbfiacnmielajaaQLabelsOrderWQPut
import Derived.Test.YtbfiacnmielajaaQLabelsOrderWApart
import Derived.Test.YtbfiacnmielajaaQLabelsOrderWArr
import Derived.Test.YtbfiacnmielajaaQLabelsOrderWZeros
import Derived.Test.YtbfiacnmielajaaQLabelsOrderWFoot
import Derived.Test.YtbfiacnmielajaaQLabelsOrderWKept
import Derived.Test.YtbfiacnmielajaaQLabelsOrderWShare
import Derived.Test.YtbfiacnmielajaaQLabelsOrderWN
import Derived.Test.YtbfiacnmielajaaQLabelsOrderWFootNe
import Derived.Test.YtbfiacnmielajaaQLabelsOrderWAt
import Derived.Test.YtbfiacnmielajaaQLabelsOrderWEqStruct
import Derived.Test.YtbfiacnmielajaaQLabelsOrderWRepsOne
import Derived.Test.YtbfiacnmielajaaQLabelsOrderWInv
import Derived.Test.YtbfiacnmielajaaQLabelsOrderWInvWords
import Derived.Test.YtbfiacnmielajaaQLabelsOrderWGuard
import Derived.Test.YtbfiacnmielajaaQLabelsOrderWNEv
import Derived.Test.YtbfiacnmielajaaQLabelsOrderWMore
import Derived.Test.YtbfiacnmielajaaRows
import Derived.Test.YtbfiacnmielajaaQLabelsOrder0
namespace Go.Proofs.Ytbfiacnmielajaa.P
open Go.RowKit Go.Proofs.YtbfiacnmielajaaW.PrintWords Go.Proofs.YtbfiacnmielajaaW.PrintLast Go.Proofs.YtbfiacnmielajaaW.PrintMore
attribute [local go_sem] max2_int min2_int max_two min_two max_three min_three max_four min_four
set_option linter.unusedVariables false
set_option linter.unusedSimpArgs false
theorem R_okM {W : World} {base : Nat} {ok ok' : Nat → Prop} {v : Value} {l : List S42} (h : Kd.R k42 42 W base ok v l) (hk : ∀ k, v.ownBlock = some k → ok' k) : Kd.R k42 42 W base ok' v l :=
  ⟨hk, h.2.imp_ (fun x cs hx => by rw [k42_openM hx]; exact k42_mkM _ _ _ x)⟩
def allL : Nat → List S42 → ByteArray → Bool → Option (List S42 × ByteArray × Bool)
  | 0, _, _, _ => none
  | d + 1, o, s, bad =>
    if bad = true then some (o, s, bad) else if hp1 s 125 = true then some (o, s, bad) else
    (if o.length = 0 then some (s, bad) else labels_reader_take.f s bad ⟨#[44]⟩).bind fun t =>
    (labels_reader_name.f (t.1.size + 2) t.1 t.2).bind fun n =>
    (labels_reader_sign.f n.2.1 n.2.2).bind fun g =>
    (labels_reader_value.f g.2.1 g.2.2).bind fun v =>
    allL d (o ++ [⟨g.1, n.1, v.1⟩]) v.2.1 (if 16 < o.length + 1 then true else v.2.2)
def labels_reader_all.f (s0_0 : ByteArray) (s0_1 : Bool) : Option (List S42 × ByteArray × Bool) :=
  (labels_reader_take.f s0_0 s0_1 ⟨#[123]⟩).bind fun t => (allL 18 [] t.1 t.2).bind fun v =>
    (labels_reader_take.f v.2.1 v.2.2 ⟨#[125]⟩).bind fun u => some (v.1, u.1, u.2 || !(u.1.toList == []))
set_option maxHeartbeats 16000000 in
set_option maxRecDepth 100000 in
theorem labels_reader_all.calls (g : Nat) (s0_0 : ByteArray) (s0_1 : Bool) (r1 : List S42) (r2 : ByteArray) (r3 : Bool) (w0 w : World) (hI : IsS67 w0 w g s0_0 s0_1) (hB : Below w0.heap.size w0 w) (h : labels_reader_all.f s0_0 s0_1 = some (r1, r2, r3)) :
    Calls Try.prog 33 #[.pointer (some ⟨g, 0, none⟩)] w fun e w' => ∃ v0_ : Value, e = .returned (v0_) ∧ Kd.R k42 42 w' w.heap.size (fun _ => True) v0_ r1 ∧ IsS67 w0 w' g r2 r3 ∧ Below w0.heap.size w0 w' ∧ KeepBut w w' g none := by
  unfold labels_reader_all.f at h
  replace h := Option.bind_eq_some_iff.mp h
  obtain ⟨⟨t1, t2⟩, ht, h⟩ := h
  replace h := Option.bind_eq_some_iff.mp h
  obtain ⟨⟨v1, v2, v3⟩, hv, h⟩ := h
  replace h := Option.bind_eq_some_iff.mp h
  obtain ⟨⟨q1, q2⟩, hq, h⟩ := h
  simp only [Option.some.injEq, Prod.mk.injEq] at h
  obtain ⟨rfl, rfl, h3⟩ := h
  dsimp only at hv hq
  have H3 := Aside0.mk h3
  have HT := Aside0.mk ht
  have HV := Aside0.mk hv
  have HQ := Aside0.mk hq
  have HI0 := Aside0.mk hI
  have HB := Aside0.mk hB
  have HK := Aside0.mk (KeepBut.refl w g none)
  have HG := Aside0.mk hI.lt
  have HW0 := Aside0.mk hB.size
  have hu := Try.underlying42
  clear hI hB ht hv hq h3
  go_enter Try.func33, Try.ntmps33
  go_wp2_with (go_at_call 45; ((with_reducible refine (labels_reader_take.calls g s0_0 s0_1 ⟨#[123]⟩ t1 t2 w0 _ HI0.out HB.out HT.out).mono ?_); rintro e w1 ⟨rfl, hI, hB, hK⟩; (try (replace HO := Aside0.mk (Kd.R_keep HO.out hK (fun k (hk : w.heap.size ≤ k) => by have := HG.out; omega)))); replace HI0 := Aside0.mk hI; replace HB := Aside0.mk hB; replace HK := Aside0.mk (HK.out.trans hK (.inl rfl)); clear hI hB hK; (try clear hc0 hc1 hf0 hf1); have hc0 := cellS67_0 HI0.out.1; have hc1 := cellS67_1 HI0.out.1; have hf0 := blk_frozen HI0.out.1 0; have hf1 := blk_frozen HI0.out.1 1))
  go_loopg [3] 18 (fun gg z3 wr => ∃ (s : ByteArray) (bad : Bool) (o : List S42), Aside0 (o.length + gg = 18) ∧ Aside0 (allL gg o s bad = some (v1, v2, v3)) ∧ Aside0 (IsS67 w0 wr g s bad) ∧ Aside0 (Below w0.heap.size w0 wr) ∧ Aside0 (KeepBut w wr g none) ∧ Aside0 (Kd.R k42 42 wr w.heap.size (fun k => w.heap.size ≤ k) z3 o))
  case atStart => exact ⟨t1, t2, [], ⟨rfl⟩, HV, HI0, HB, HK, ⟨Kd.R_nil _ _ _ _ _⟩⟩
  case round =>
    clear HV HI0 HB HK HT
    obtain ⟨s, bad, o, HL, HV, HI0, HB, HK, HO⟩ := hrel
    have hc0 := cellS67_0 HI0.out.1
    have hc1 := cellS67_1 HI0.out.1
    have hf0 := blk_frozen HI0.out.1 0
    have hf1 := blk_frozen HI0.out.1 1
    have HW : Aside0 (w.heap.size ≤ wr.heap.size) := ⟨HK.out.1⟩
    obtain ⟨A3, c3, rfl, -⟩ := Kd.R_reads HO.out
    cases gk with
    | zero => exact absurd HV.out (by simp [allL])
    | succ d =>
      have h := HV.out
      simp only [allL] at h
      clear HV
      by_cases c0 : bad = true
      · rw [if_pos c0] at h
        subst c0
        simp only [Option.some.injEq, Prod.mk.injEq] at h
        obtain ⟨rfl, rfl, rfl⟩ := h
        by_cases e2 : q2 = true
        · subst e2
          go_wp2_with (first | (go_at_call 45; ((with_reducible refine (labels_reader_take.calls g s true ⟨#[125]⟩ q1 true w0 _ HI0.out HB.out HQ.out).mono ?_); rintro e w1 ⟨rfl, hI, hB, hK⟩; (try (replace HO := Aside0.mk (Kd.R_keep HO.out hK (fun k (hk : w.heap.size ≤ k) => by have := HG.out; omega)))); replace HI0 := Aside0.mk hI; replace HB := Aside0.mk hB; replace HK := Aside0.mk (HK.out.trans hK (.inl rfl)); clear hI hB hK; (try clear hc0 hc1 hf0 hf1); have hc0 := cellS67_0 HI0.out.1; have hc1 := cellS67_1 HI0.out.1; have hf0 := blk_frozen HI0.out.1 0; have hf1 := blk_frozen HI0.out.1 1)))
          go_ret
          refine ⟨_, rfl, Kd.R_mono (Kd.R_keep HO.out ((KeepBut.refl _ _ _).set_ 1 _) (fun k (hk : w.heap.size ≤ k) => by have := HG.out; omega)) (fun _ _ => trivial), ?_, below_set HB.out (IsS67.ge HI0.out), HK.out.set_ 1 _⟩
          have := HI0.out.set_1 true
          rwa [← H3.out]
        · replace e2 := Bool.eq_false_iff.2 e2
          subst e2
          cases hb_ : (q1.toList == []) with
          | true =>
            rw [hb_] at H3
            have hl_ : q1.toList = [] := by simpa using hb_
            have hl2_ : (!q1.toList.isEmpty) = false := by rw [hl_]; rfl
            clear hb_
            go_wp2_with (first | (go_at_call 45; ((with_reducible refine (labels_reader_take.calls g s true ⟨#[125]⟩ q1 false w0 _ HI0.out HB.out HQ.out).mono ?_); rintro e w1 ⟨rfl, hI, hB, hK⟩; (try (replace HO := Aside0.mk (Kd.R_keep HO.out hK (fun k (hk : w.heap.size ≤ k) => by have := HG.out; omega)))); replace HI0 := Aside0.mk hI; replace HB := Aside0.mk hB; replace HK := Aside0.mk (HK.out.trans hK (.inl rfl)); clear hI hB hK; (try clear hc0 hc1 hf0 hf1); have hc0 := cellS67_0 HI0.out.1; have hc1 := cellS67_1 HI0.out.1; have hf0 := blk_frozen HI0.out.1 0; have hf1 := blk_frozen HI0.out.1 1)))
            go_ret
            refine ⟨_, rfl, Kd.R_mono (Kd.R_keep HO.out ((KeepBut.refl _ _ _).set_ 1 _) (fun k (hk : w.heap.size ≤ k) => by have := HG.out; omega)) (fun _ _ => trivial), ?_, below_set HB.out (IsS67.ge HI0.out), HK.out.set_ 1 _⟩
            have := HI0.out.set_1 false
            rwa [← H3.out]
          | false =>
            rw [hb_] at H3
            have hl_ : ¬ q1.toList = [] := by simpa using hb_
            have hl2_ : (!q1.toList.isEmpty) = true := by simp [List.isEmpty_iff, hl_]
            clear hb_
            go_wp2_with (first | (go_at_call 45; ((with_reducible refine (labels_reader_take.calls g s true ⟨#[125]⟩ q1 false w0 _ HI0.out HB.out HQ.out).mono ?_); rintro e w1 ⟨rfl, hI, hB, hK⟩; (try (replace HO := Aside0.mk (Kd.R_keep HO.out hK (fun k (hk : w.heap.size ≤ k) => by have := HG.out; omega)))); replace HI0 := Aside0.mk hI; replace HB := Aside0.mk hB; replace HK := Aside0.mk (HK.out.trans hK (.inl rfl)); clear hI hB hK; (try clear hc0 hc1 hf0 hf1); have hc0 := cellS67_0 HI0.out.1; have hc1 := cellS67_1 HI0.out.1; have hf0 := blk_frozen HI0.out.1 0; have hf1 := blk_frozen HI0.out.1 1)))
            go_ret
            refine ⟨_, rfl, Kd.R_mono (Kd.R_keep HO.out ((KeepBut.refl _ _ _).set_ 1 _) (fun k (hk : w.heap.size ≤ k) => by have := HG.out; omega)) (fun _ _ => trivial), ?_, below_set HB.out (IsS67.ge HI0.out), HK.out.set_ 1 _⟩
            have := HI0.out.set_1 true
            rwa [← H3.out]
      rw [if_neg c0] at h
      replace c0 := Bool.eq_false_iff.2 c0
      subst c0
      by_cases c1 : hp1 s 125 = true
      · rw [if_pos c1] at h
        simp only [Option.some.injEq, Prod.mk.injEq] at h
        obtain ⟨rfl, rfl, rfl⟩ := h
        have P125 : Aside0 (strings_HasPrefix.f s ⟨#[125]⟩ = some true) := ⟨by rw [hasPrefix1]; exact congrArg some c1⟩
        clear c1
        by_cases e2 : q2 = true
        · subst e2
          go_wp2_with (first | (go_at_call 46; (with_reducible refine (strings_HasPrefix.calls s ⟨#[125]⟩ true _ P125.out).mono ?_); rintro e w' ⟨rfl, ⟨nd, rfl⟩⟩; have n0 := Aside0.mk (IsS67.drewN HI0.out nd); have n1 := Aside0.mk (keep_drewN HK.out nd); have n2 := Aside0.mk (pw_below_drewN HB.out nd); have n3 := Aside0.mk (Kd.R_keep HO.out (keep_drewN (KeepBut.refl wr g none) nd) (fun k (hk : w.heap.size ≤ k) => by have := HG.out; omega)); clear HI0 HK HB HO HW hc0 hc1 hf0 hf1; generalize World.drewN wr nd = WA at n0 n1 n2 n3 ⊢; have HI0 := n0; have HK := n1; have HB := n2; have HO := n3; clear n0 n1 n2 n3; (try clear hc0 hc1 hf0 hf1); have hc0 := cellS67_0 HI0.out.1; have hc1 := cellS67_1 HI0.out.1; have hf0 := blk_frozen HI0.out.1 0; have hf1 := blk_frozen HI0.out.1 1) | (go_at_call 45; ((with_reducible refine (labels_reader_take.calls g s false ⟨#[125]⟩ q1 true w0 _ HI0.out HB.out HQ.out).mono ?_); rintro e w1 ⟨rfl, hI, hB, hK⟩; (try (replace HO := Aside0.mk (Kd.R_keep HO.out hK (fun k (hk : w.heap.size ≤ k) => by have := HG.out; omega)))); replace HI0 := Aside0.mk hI; replace HB := Aside0.mk hB; replace HK := Aside0.mk (HK.out.trans hK (.inl rfl)); clear hI hB hK; (try clear hc0 hc1 hf0 hf1); have hc0 := cellS67_0 HI0.out.1; have hc1 := cellS67_1 HI0.out.1; have hf0 := blk_frozen HI0.out.1 0; have hf1 := blk_frozen HI0.out.1 1)))
          go_ret
          refine ⟨_, rfl, Kd.R_mono (Kd.R_keep HO.out ((KeepBut.refl _ _ _).set_ 1 _) (fun k (hk : w.heap.size ≤ k) => by have := HG.out; omega)) (fun _ _ => trivial), ?_, below_set HB.out (IsS67.ge HI0.out), HK.out.set_ 1 _⟩
          have := HI0.out.set_1 true
          rwa [← H3.out]
        · replace e2 := Bool.eq_false_iff.2 e2
          subst e2
          cases hb_ : (q1.toList == []) with
          | true =>
            rw [hb_] at H3
            have hl_ : q1.toList = [] := by simpa using hb_
            have hl2_ : (!q1.toList.isEmpty) = false := by rw [hl_]; rfl
            clear hb_
            go_wp2_with (first | (go_at_call 46; (with_reducible refine (strings_HasPrefix.calls s ⟨#[125]⟩ true _ P125.out).mono ?_); rintro e w' ⟨rfl, ⟨nd, rfl⟩⟩; have n0 := Aside0.mk (IsS67.drewN HI0.out nd); have n1 := Aside0.mk (keep_drewN HK.out nd); have n2 := Aside0.mk (pw_below_drewN HB.out nd); have n3 := Aside0.mk (Kd.R_keep HO.out (keep_drewN (KeepBut.refl wr g none) nd) (fun k (hk : w.heap.size ≤ k) => by have := HG.out; omega)); clear HI0 HK HB HO HW hc0 hc1 hf0 hf1; generalize World.drewN wr nd = WA at n0 n1 n2 n3 ⊢; have HI0 := n0; have HK := n1; have HB := n2; have HO := n3; clear n0 n1 n2 n3; (try clear hc0 hc1 hf0 hf1); have hc0 := cellS67_0 HI0.out.1; have hc1 := cellS67_1 HI0.out.1; have hf0 := blk_frozen HI0.out.1 0; have hf1 := blk_frozen HI0.out.1 1) | (go_at_call 45; ((with_reducible refine (labels_reader_take.calls g s false ⟨#[125]⟩ q1 false w0 _ HI0.out HB.out HQ.out).mono ?_); rintro e w1 ⟨rfl, hI, hB, hK⟩; (try (replace HO := Aside0.mk (Kd.R_keep HO.out hK (fun k (hk : w.heap.size ≤ k) => by have := HG.out; omega)))); replace HI0 := Aside0.mk hI; replace HB := Aside0.mk hB; replace HK := Aside0.mk (HK.out.trans hK (.inl rfl)); clear hI hB hK; (try clear hc0 hc1 hf0 hf1); have hc0 := cellS67_0 HI0.out.1; have hc1 := cellS67_1 HI0.out.1; have hf0 := blk_frozen HI0.out.1 0; have hf1 := blk_frozen HI0.out.1 1)))
            go_ret
            refine ⟨_, rfl, Kd.R_mono (Kd.R_keep HO.out ((KeepBut.refl _ _ _).set_ 1 _) (fun k (hk : w.heap.size ≤ k) => by have := HG.out; omega)) (fun _ _ => trivial), ?_, below_set HB.out (IsS67.ge HI0.out), HK.out.set_ 1 _⟩
            have := HI0.out.set_1 false
            rwa [← H3.out]
          | false =>
            rw [hb_] at H3
            have hl_ : ¬ q1.toList = [] := by simpa using hb_
            have hl2_ : (!q1.toList.isEmpty) = true := by simp [List.isEmpty_iff, hl_]
            clear hb_
            go_wp2_with (first | (go_at_call 46; (with_reducible refine (strings_HasPrefix.calls s ⟨#[125]⟩ true _ P125.out).mono ?_); rintro e w' ⟨rfl, ⟨nd, rfl⟩⟩; have n0 := Aside0.mk (IsS67.drewN HI0.out nd); have n1 := Aside0.mk (keep_drewN HK.out nd); have n2 := Aside0.mk (pw_below_drewN HB.out nd); have n3 := Aside0.mk (Kd.R_keep HO.out (keep_drewN (KeepBut.refl wr g none) nd) (fun k (hk : w.heap.size ≤ k) => by have := HG.out; omega)); clear HI0 HK HB HO HW hc0 hc1 hf0 hf1; generalize World.drewN wr nd = WA at n0 n1 n2 n3 ⊢; have HI0 := n0; have HK := n1; have HB := n2; have HO := n3; clear n0 n1 n2 n3; (try clear hc0 hc1 hf0 hf1); have hc0 := cellS67_0 HI0.out.1; have hc1 := cellS67_1 HI0.out.1; have hf0 := blk_frozen HI0.out.1 0; have hf1 := blk_frozen HI0.out.1 1) | (go_at_call 45; ((with_reducible refine (labels_reader_take.calls g s false ⟨#[125]⟩ q1 false w0 _ HI0.out HB.out HQ.out).mono ?_); rintro e w1 ⟨rfl, hI, hB, hK⟩; (try (replace HO := Aside0.mk (Kd.R_keep HO.out hK (fun k (hk : w.heap.size ≤ k) => by have := HG.out; omega)))); replace HI0 := Aside0.mk hI; replace HB := Aside0.mk hB; replace HK := Aside0.mk (HK.out.trans hK (.inl rfl)); clear hI hB hK; (try clear hc0 hc1 hf0 hf1); have hc0 := cellS67_0 HI0.out.1; have hc1 := cellS67_1 HI0.out.1; have hf0 := blk_frozen HI0.out.1 0; have hf1 := blk_frozen HI0.out.1 1)))
            go_ret
            refine ⟨_, rfl, Kd.R_mono (Kd.R_keep HO.out ((KeepBut.refl _ _ _).set_ 1 _) (fun k (hk : w.heap.size ≤ k) => by have := HG.out; omega)) (fun _ _ => trivial), ?_, below_set HB.out (IsS67.ge HI0.out), HK.out.set_ 1 _⟩
            have := HI0.out.set_1 true
            rwa [← H3.out]
      rw [if_neg c1] at h
      replace h := Option.bind_eq_some_iff.mp h
      obtain ⟨⟨t1, t2⟩, htk, h⟩ := h
      replace h := Option.bind_eq_some_iff.mp h
      obtain ⟨⟨n1, n2, n3⟩, hn, h⟩ := h
      replace h := Option.bind_eq_some_iff.mp h
      obtain ⟨⟨g1, g2, g3⟩, hs, h⟩ := h
      replace h := Option.bind_eq_some_iff.mp h
      obtain ⟨⟨x1, x2, x3⟩, hx, h⟩ := h
      dsimp only at hn hs hx h
      have HN := Aside0.mk hn
      have HS := Aside0.mk hs
      have HX := Aside0.mk hx
      have HV := Aside0.mk h
      clear hn hs hx h
      by_cases ce : o.length = 0
      · rw [if_pos ce] at htk
        simp only [Option.some.injEq, Prod.mk.injEq] at htk
        obtain ⟨rfl, rfl⟩ := htk
        have z1 : decide ((0 : Int) < (o.length : Int)) = false := decide_eq_false (by omega)
        have z2 : decide (0 < o.length) = false := decide_eq_false (by omega)
        clear ce
        have c1' := Bool.eq_false_iff.2 c1
        have P125 : Aside0 (strings_HasPrefix.f s ⟨#[125]⟩ = some false) := ⟨by rw [hasPrefix1]; exact congrArg some c1'⟩
        clear c1 c1'
        have HE : Aside0 ((o ++ [(⟨g1, n1, x1⟩ : S42)]).length = o.length + 1) := ⟨by simp⟩
        by_cases c16 : 16 < o.length + 1
        · rw [if_pos c16] at HV
          have y1 : decide (16 < o.length + 1) = true := decide_eq_true c16
          have y2 : decide ((16 : Int) < (o.length : Int) + 1) = true := decide_eq_true (by omega)
          clear c16
          go_wp2_with (first | (go_at_call 46; (with_reducible refine (strings_HasPrefix.calls s ⟨#[125]⟩ false _ P125.out).mono ?_); rintro e w' ⟨rfl, ⟨nd, rfl⟩⟩; have n0 := Aside0.mk (IsS67.drewN HI0.out nd); have n1 := Aside0.mk (keep_drewN HK.out nd); have n2 := Aside0.mk (pw_below_drewN HB.out nd); have n3 := Aside0.mk (Kd.R_keep HO.out (keep_drewN (KeepBut.refl wr g none) nd) (fun k (hk : w.heap.size ≤ k) => by have := HG.out; omega)); clear HI0 HK HB HO HW hc0 hc1 hf0 hf1; generalize World.drewN wr nd = WA at n0 n1 n2 n3 ⊢; have HI0 := n0; have HK := n1; have HB := n2; have HO := n3; clear n0 n1 n2 n3; (try clear hc0 hc1 hf0 hf1); have hc0 := cellS67_0 HI0.out.1; have hc1 := cellS67_1 HI0.out.1; have hf0 := blk_frozen HI0.out.1 0; have hf1 := blk_frozen HI0.out.1 1) | (go_at_call 47; ((with_reducible refine (labels_reader_name.calls (s.size + 2) g s false n1 n2 n3 w0 _ HI0.out HB.out HN.out).mono ?_); rintro e WN ⟨rfl, hI, hB, hK⟩; (try (replace HO := Aside0.mk (Kd.R_keep HO.out hK (fun k (hk : w.heap.size ≤ k) => by have := HG.out; omega)))); replace HI0 := Aside0.mk hI; replace HB := Aside0.mk hB; replace HK := Aside0.mk (HK.out.trans hK (.inl rfl)); clear hI hB hK; (try clear hc0 hc1 hf0 hf1); have hc0 := cellS67_0 HI0.out.1; have hc1 := cellS67_1 HI0.out.1; have hf0 := blk_frozen HI0.out.1 0; have hf1 := blk_frozen HI0.out.1 1; have hne : Aside0 (WN.heap.size ≠ g) := ⟨by have := HI0.out.lt; omega⟩; have hwn : Aside0 (w.heap.size ≤ WN.heap.size) := ⟨HK.out.1⟩; have hgn := Aside0.mk HI0.out.lt; replace HO := Aside0.mk (R_okM (ok' := fun k => w.heap.size ≤ k ∧ k < WN.heap.size) HO.out (fun k hk => ⟨HO.out.1 k hk, Kd.R_lt HO.out k hk⟩)))) | (go_at_call 48; ((with_reducible refine (labels_reader_sign.calls g n2 n3 g1 g2 g3 w0 _ (HI0.out.alloc (.cells #[.int .i64 0, .string n1, .string (⟨#[]⟩ : ByteArray)] 42)) (below_alloc HB.out (.cells #[.int .i64 0, .string n1, .string (⟨#[]⟩ : ByteArray)] 42)) HS.out).mono ?_); rintro e WS ⟨rfl, hI, hB, hK⟩; have BX := Aside0.mk (hK.blk (show (WN.alloc (.cells #[.int .i64 0, .string n1, .string (⟨#[]⟩ : ByteArray)] 42)).heap[WN.heap.size]? = some (.cells #[.int .i64 0, .string n1, .string (⟨#[]⟩ : ByteArray)] 42 (0, 0)) from by simpa using heap_alloc_new WN _) hne.out (by simp)); replace HO := Aside0.mk (Kd.R_keep (Kd.R_alloc HO.out (.cells #[.int .i64 0, .string n1, .string (⟨#[]⟩ : ByteArray)] 42)) hK (fun k (hk : w.heap.size ≤ k ∧ k < WN.heap.size) => by have := HG.out; omega)); replace HK := Aside0.mk ((keep_alloc HK.out (.cells #[.int .i64 0, .string n1, .string (⟨#[]⟩ : ByteArray)] 42)).trans hK (.inl rfl)); replace HI0 := Aside0.mk hI; replace HB := Aside0.mk hB; clear hI hB hK; (try clear hc0 hc1 hf0 hf1); have hc0 := cellS67_0 HI0.out.1; have hc1 := cellS67_1 HI0.out.1; have hf0 := blk_frozen HI0.out.1 0; have hf1 := blk_frozen HI0.out.1 1; have hb0 := blk_cell BX.out 0; have hb1 := blk_cell BX.out 1; have hb2 := blk_cell BX.out 2; have hbf0 := blk_frozen BX.out 0; have hbf2 := blk_frozen BX.out 2)) | (go_at_call 49; ((with_reducible refine (labels_reader_value.calls g g2 g3 x1 x2 x3 w0 _ (HI0.out.far (p := ⟨WN.heap.size, 0, none⟩) (Ne.symm hne.out) (.int .i64 g1)) (below_set (j := 0) (v := .int .i64 g1) HB.out (Nat.le_trans HW0.out hwn.out)) HX.out).mono ?_); rintro e WV ⟨rfl, hI, hB, hK⟩; replace BX : Aside0 (WV.heap[WN.heap.size]? = some (.cells #[.int .i64 g1, .string n1, .string (⟨#[]⟩ : ByteArray)] 42 (0, 0))) := ⟨hK.blk (by simpa using blk_set BX.out 0 (.int .i64 g1)) hne.out (by simp)⟩; replace HO := Aside0.mk (Kd.R_keep (Kd.R_keep HO.out ((KeepBut.refl WS WN.heap.size none).set_ 0 (.int .i64 g1)) (fun k (hk : w.heap.size ≤ k ∧ k < WN.heap.size) => by omega)) hK (fun k (hk : w.heap.size ≤ k ∧ k < WN.heap.size) => by have := HG.out; omega)); replace HK := Aside0.mk ((keep_far HK.out (p := ⟨WN.heap.size, 0, none⟩) hwn.out (.int .i64 g1)).trans hK (.inl rfl)); replace HI0 := Aside0.mk hI; replace HB := Aside0.mk hB; clear hI hB hK hb0 hb1 hb2 hbf0 hbf2; (try clear hc0 hc1 hf0 hf1); have hc0 := cellS67_0 HI0.out.1; have hc1 := cellS67_1 HI0.out.1; have hf0 := blk_frozen HI0.out.1 0; have hf1 := blk_frozen HI0.out.1 1; have hb0 := blk_cell BX.out 0; have hb1 := blk_cell BX.out 1; have hb2 := blk_cell BX.out 2; have hbf2 := blk_frozen BX.out 2)) | ((with_reducible refine gate_builtin (b := .append) (xs := #[.tmp 34, .tmp 36]) rfl ?_); at_builtin; (refine Kd.R_append k42 (w0 := (WV.setCell ⟨WN.heap.size, 2, none⟩ (.string x1))) w.heap.size rfl (.tmp 34) (.tmp 36) 37 42 (.agg #[.int .i64 0, .string ⟨#[]⟩, .string ⟨#[]⟩]) 40 rfl Try.underlying37 info42 rfl (by decide) (by omega) (.slice A3 o.length c3) o ⟨g1, n1, x1⟩ [.int .i64 g1, .string n1, .string x1] (fun k => w.heap.size ≤ k) (fun _ => False) rfl (by first | rfl | (go_simp; done) | (simp [World.setCell]; done)) ?aP (fun _ hk => hk.elim) ?aF ?aO ?aB ?aS ?aL ?_; (case aP => exact k42_mkM _ _ _ _); (case aB => exact Below.refl _ _); (case aF => exact (fun k hk => Nat.le_trans (keep_size (w := w) (g := g) (row := none) (keep_far HK.out (p := ⟨WN.heap.size, 2, none⟩) hwn.out _)) hk)); (case aO => exact R_okM (Kd.R_keep HO.out ((KeepBut.refl WV WN.heap.size none).set_ 2 _) (fun k (hk : w.heap.size ≤ k ∧ k < WN.heap.size) => by omega)) (fun k hk => (HO.out.1 k hk).1)); (case aS => exact keep_size (w := w) (g := g) (row := none) (keep_far HK.out (p := ⟨WN.heap.size, 2, none⟩) hwn.out _)); (case aL => have := HL.out; omega); intro z4 w5 ho hb hg hat; have HI1 := Aside0.mk (IsS67.grown (HI0.out.far (p := ⟨WN.heap.size, 2, none⟩) (Ne.symm hne.out) (.string x1)) hg (fun e => by have := (HO.out.1 _ e.symm).1; have := HG.out; omega)); replace HK := Aside0.mk (KeepBut.trans (keep_far HK.out (p := ⟨WN.heap.size, 2, none⟩) hwn.out (.string x1)) (KeepBut.of_grown hg g) (by cases hq_ : (Value.slice A3 o.length c3).ownBlock with | none => exact .inl rfl | some q_ => exact .inr ⟨q_, rfl, (HO.out.1 _ hq_).1⟩)); replace HB := Aside0.mk ((below_set (j := 2) (v := .string x1) HB.out (Nat.le_trans HW0.out hwn.out)).trans (hb.mono HW0.out)); replace HO := Aside0.mk ho; replace HI0 := HI1; obtain ⟨A_, c_, rfl, -⟩ := Kd.R_reads ho; clear ho hb hg hat HI1 hb0 hb1 hb2 hbf2; (try clear hc0 hc1 hf0 hf1); have hc0 := cellS67_0 HI0.out.1; have hc1 := cellS67_1 HI0.out.1; have hf0 := blk_frozen HI0.out.1 0; have hf1 := blk_frozen HI0.out.1 1)))
          go_roundg d
          case measure => omega
          case rel =>
            have ho := HO.out
            rw [HE.out] at ho
            exact ⟨x2, true, _, ⟨by have := HL.out; rw [HE.out]; omega⟩, HV, ⟨HI0.out.set_1 true⟩, ⟨below_set HB.out (IsS67.ge HI0.out)⟩, ⟨HK.out.set_ 1 _⟩, ⟨Kd.R_keep ho ((KeepBut.refl _ _ _).set_ 1 _) (fun k (hk : w.heap.size ≤ k) => by have := HG.out; omega)⟩⟩
        · rw [if_neg c16] at HV
          have y1 : decide (16 < o.length + 1) = false := decide_eq_false c16
          have y2 : decide ((16 : Int) < (o.length : Int) + 1) = false := decide_eq_false (by omega)
          clear c16
          go_wp2_with (first | (go_at_call 46; (with_reducible refine (strings_HasPrefix.calls s ⟨#[125]⟩ false _ P125.out).mono ?_); rintro e w' ⟨rfl, ⟨nd, rfl⟩⟩; have n0 := Aside0.mk (IsS67.drewN HI0.out nd); have n1 := Aside0.mk (keep_drewN HK.out nd); have n2 := Aside0.mk (pw_below_drewN HB.out nd); have n3 := Aside0.mk (Kd.R_keep HO.out (keep_drewN (KeepBut.refl wr g none) nd) (fun k (hk : w.heap.size ≤ k) => by have := HG.out; omega)); clear HI0 HK HB HO HW hc0 hc1 hf0 hf1; generalize World.drewN wr nd = WA at n0 n1 n2 n3 ⊢; have HI0 := n0; have HK := n1; have HB := n2; have HO := n3; clear n0 n1 n2 n3; (try clear hc0 hc1 hf0 hf1); have hc0 := cellS67_0 HI0.out.1; have hc1 := cellS67_1 HI0.out.1; have hf0 := blk_frozen HI0.out.1 0; have hf1 := blk_frozen HI0.out.1 1) | (go_at_call 47; ((with_reducible refine (labels_reader_name.calls (s.size + 2) g s false n1 n2 n3 w0 _ HI0.out HB.out HN.out).mono ?_); rintro e WN ⟨rfl, hI, hB, hK⟩; (try (replace HO := Aside0.mk (Kd.R_keep HO.out hK (fun k (hk : w.heap.size ≤ k) => by have := HG.out; omega)))); replace HI0 := Aside0.mk hI; replace HB := Aside0.mk hB; replace HK := Aside0.mk (HK.out.trans hK (.inl rfl)); clear hI hB hK; (try clear hc0 hc1 hf0 hf1); have hc0 := cellS67_0 HI0.out.1; have hc1 := cellS67_1 HI0.out.1; have hf0 := blk_frozen HI0.out.1 0; have hf1 := blk_frozen HI0.out.1 1; have hne : Aside0 (WN.heap.size ≠ g) := ⟨by have := HI0.out.lt; omega⟩; have hwn : Aside0 (w.heap.size ≤ WN.heap.size) := ⟨HK.out.1⟩; have hgn := Aside0.mk HI0.out.lt; replace HO := Aside0.mk (R_okM (ok' := fun k => w.heap.size ≤ k ∧ k < WN.heap.size) HO.out (fun k hk => ⟨HO.out.1 k hk, Kd.R_lt HO.out k hk⟩)))) | (go_at_call 48; ((with_reducible refine (labels_reader_sign.calls g n2 n3 g1 g2 g3 w0 _ (HI0.out.alloc (.cells #[.int .i64 0, .string n1, .string (⟨#[]⟩ : ByteArray)] 42)) (below_alloc HB.out (.cells #[.int .i64 0, .string n1, .string (⟨#[]⟩ : ByteArray)] 42)) HS.out).mono ?_); rintro e WS ⟨rfl, hI, hB, hK⟩; have BX := Aside0.mk (hK.blk (show (WN.alloc (.cells #[.int .i64 0, .string n1, .string (⟨#[]⟩ : ByteArray)] 42)).heap[WN.heap.size]? = some (.cells #[.int .i64 0, .string n1, .string (⟨#[]⟩ : ByteArray)] 42 (0, 0)) from by simpa using heap_alloc_new WN _) hne.out (by simp)); replace HO := Aside0.mk (Kd.R_keep (Kd.R_alloc HO.out (.cells #[.int .i64 0, .string n1, .string (⟨#[]⟩ : ByteArray)] 42)) hK (fun k (hk : w.heap.size ≤ k ∧ k < WN.heap.size) => by have := HG.out; omega)); replace HK := Aside0.mk ((keep_alloc HK.out (.cells #[.int .i64 0, .string n1, .string (⟨#[]⟩ : ByteArray)] 42)).trans hK (.inl rfl)); replace HI0 := Aside0.mk hI; replace HB := Aside0.mk hB; clear hI hB hK; (try clear hc0 hc1 hf0 hf1); have hc0 := cellS67_0 HI0.out.1; have hc1 := cellS67_1 HI0.out.1; have hf0 := blk_frozen HI0.out.1 0; have hf1 := blk_frozen HI0.out.1 1; have hb0 := blk_cell BX.out 0; have hb1 := blk_cell BX.out 1; have hb2 := blk_cell BX.out 2; have hbf0 := blk_frozen BX.out 0; have hbf2 := blk_frozen BX.out 2)) | (go_at_call 49; ((with_reducible refine (labels_reader_value.calls g g2 g3 x1 x2 x3 w0 _ (HI0.out.far (p := ⟨WN.heap.size, 0, none⟩) (Ne.symm hne.out) (.int .i64 g1)) (below_set (j := 0) (v := .int .i64 g1) HB.out (Nat.le_trans HW0.out hwn.out)) HX.out).mono ?_); rintro e WV ⟨rfl, hI, hB, hK⟩; replace BX : Aside0 (WV.heap[WN.heap.size]? = some (.cells #[.int .i64 g1, .string n1, .string (⟨#[]⟩ : ByteArray)] 42 (0, 0))) := ⟨hK.blk (by simpa using blk_set BX.out 0 (.int .i64 g1)) hne.out (by simp)⟩; replace HO := Aside0.mk (Kd.R_keep (Kd.R_keep HO.out ((KeepBut.refl WS WN.heap.size none).set_ 0 (.int .i64 g1)) (fun k (hk : w.heap.size ≤ k ∧ k < WN.heap.size) => by omega)) hK (fun k (hk : w.heap.size ≤ k ∧ k < WN.heap.size) => by have := HG.out; omega)); replace HK := Aside0.mk ((keep_far HK.out (p := ⟨WN.heap.size, 0, none⟩) hwn.out (.int .i64 g1)).trans hK (.inl rfl)); replace HI0 := Aside0.mk hI; replace HB := Aside0.mk hB; clear hI hB hK hb0 hb1 hb2 hbf0 hbf2; (try clear hc0 hc1 hf0 hf1); have hc0 := cellS67_0 HI0.out.1; have hc1 := cellS67_1 HI0.out.1; have hf0 := blk_frozen HI0.out.1 0; have hf1 := blk_frozen HI0.out.1 1; have hb0 := blk_cell BX.out 0; have hb1 := blk_cell BX.out 1; have hb2 := blk_cell BX.out 2; have hbf2 := blk_frozen BX.out 2)) | ((with_reducible refine gate_builtin (b := .append) (xs := #[.tmp 34, .tmp 36]) rfl ?_); at_builtin; (refine Kd.R_append k42 (w0 := (WV.setCell ⟨WN.heap.size, 2, none⟩ (.string x1))) w.heap.size rfl (.tmp 34) (.tmp 36) 37 42 (.agg #[.int .i64 0, .string ⟨#[]⟩, .string ⟨#[]⟩]) 40 rfl Try.underlying37 info42 rfl (by decide) (by omega) (.slice A3 o.length c3) o ⟨g1, n1, x1⟩ [.int .i64 g1, .string n1, .string x1] (fun k => w.heap.size ≤ k) (fun _ => False) rfl (by first | rfl | (go_simp; done) | (simp [World.setCell]; done)) ?aP (fun _ hk => hk.elim) ?aF ?aO ?aB ?aS ?aL ?_; (case aP => exact k42_mkM _ _ _ _); (case aB => exact Below.refl _ _); (case aF => exact (fun k hk => Nat.le_trans (keep_size (w := w) (g := g) (row := none) (keep_far HK.out (p := ⟨WN.heap.size, 2, none⟩) hwn.out _)) hk)); (case aO => exact R_okM (Kd.R_keep HO.out ((KeepBut.refl WV WN.heap.size none).set_ 2 _) (fun k (hk : w.heap.size ≤ k ∧ k < WN.heap.size) => by omega)) (fun k hk => (HO.out.1 k hk).1)); (case aS => exact keep_size (w := w) (g := g) (row := none) (keep_far HK.out (p := ⟨WN.heap.size, 2, none⟩) hwn.out _)); (case aL => have := HL.out; omega); intro z4 w5 ho hb hg hat; have HI1 := Aside0.mk (IsS67.grown (HI0.out.far (p := ⟨WN.heap.size, 2, none⟩) (Ne.symm hne.out) (.string x1)) hg (fun e => by have := (HO.out.1 _ e.symm).1; have := HG.out; omega)); replace HK := Aside0.mk (KeepBut.trans (keep_far HK.out (p := ⟨WN.heap.size, 2, none⟩) hwn.out (.string x1)) (KeepBut.of_grown hg g) (by cases hq_ : (Value.slice A3 o.length c3).ownBlock with | none => exact .inl rfl | some q_ => exact .inr ⟨q_, rfl, (HO.out.1 _ hq_).1⟩)); replace HB := Aside0.mk ((below_set (j := 2) (v := .string x1) HB.out (Nat.le_trans HW0.out hwn.out)).trans (hb.mono HW0.out)); replace HO := Aside0.mk ho; replace HI0 := HI1; obtain ⟨A_, c_, rfl, -⟩ := Kd.R_reads ho; clear ho hb hg hat HI1 hb0 hb1 hb2 hbf2; (try clear hc0 hc1 hf0 hf1); have hc0 := cellS67_0 HI0.out.1; have hc1 := cellS67_1 HI0.out.1; have hf0 := blk_frozen HI0.out.1 0; have hf1 := blk_frozen HI0.out.1 1)))
          go_roundg d
          case measure => omega
          case rel =>
            have ho := HO.out
            rw [HE.out] at ho
            exact ⟨x2, x3, _, ⟨by have := HL.out; rw [HE.out]; omega⟩, HV, HI0, HB, HK, ⟨ho⟩⟩
      · rw [if_neg ce] at htk
        have HTK := Aside0.mk htk
        clear htk
        have z1 : decide ((0 : Int) < (o.length : Int)) = true := decide_eq_true (by omega)
        have z2 : decide (0 < o.length) = true := decide_eq_true (by omega)
        clear ce
        have c1' := Bool.eq_false_iff.2 c1
        have P125 : Aside0 (strings_HasPrefix.f s ⟨#[125]⟩ = some false) := ⟨by rw [hasPrefix1]; exact congrArg some c1'⟩
        clear c1 c1'
        have HE : Aside0 ((o ++ [(⟨g1, n1, x1⟩ : S42)]).length = o.length + 1) := ⟨by simp⟩
        by_cases c16 : 16 < o.length + 1
        · rw [if_pos c16] at HV
          have y1 : decide (16 < o.length + 1) = true := decide_eq_true c16
          have y2 : decide ((16 : Int) < (o.length : Int) + 1) = true := decide_eq_true (by omega)
          clear c16
          go_wp2_with (first | (go_at_call 46; (with_reducible refine (strings_HasPrefix.calls s ⟨#[125]⟩ false _ P125.out).mono ?_); rintro e w' ⟨rfl, ⟨nd, rfl⟩⟩; have n0 := Aside0.mk (IsS67.drewN HI0.out nd); have n1 := Aside0.mk (keep_drewN HK.out nd); have n2 := Aside0.mk (pw_below_drewN HB.out nd); have n3 := Aside0.mk (Kd.R_keep HO.out (keep_drewN (KeepBut.refl wr g none) nd) (fun k (hk : w.heap.size ≤ k) => by have := HG.out; omega)); clear HI0 HK HB HO HW hc0 hc1 hf0 hf1; generalize World.drewN wr nd = WA at n0 n1 n2 n3 ⊢; have HI0 := n0; have HK := n1; have HB := n2; have HO := n3; clear n0 n1 n2 n3; (try clear hc0 hc1 hf0 hf1); have hc0 := cellS67_0 HI0.out.1; have hc1 := cellS67_1 HI0.out.1; have hf0 := blk_frozen HI0.out.1 0; have hf1 := blk_frozen HI0.out.1 1) | (go_at_call 45; ((with_reducible refine (labels_reader_take.calls g s false ⟨#[44]⟩ t1 t2 w0 _ HI0.out HB.out HTK.out).mono ?_); rintro e w1 ⟨rfl, hI, hB, hK⟩; (try (replace HO := Aside0.mk (Kd.R_keep HO.out hK (fun k (hk : w.heap.size ≤ k) => by have := HG.out; omega)))); replace HI0 := Aside0.mk hI; replace HB := Aside0.mk hB; replace HK := Aside0.mk (HK.out.trans hK (.inl rfl)); clear hI hB hK; (try clear hc0 hc1 hf0 hf1); have hc0 := cellS67_0 HI0.out.1; have hc1 := cellS67_1 HI0.out.1; have hf0 := blk_frozen HI0.out.1 0; have hf1 := blk_frozen HI0.out.1 1)) | (go_at_call 47; ((with_reducible refine (labels_reader_name.calls (t1.size + 2) g t1 t2 n1 n2 n3 w0 _ HI0.out HB.out HN.out).mono ?_); rintro e WN ⟨rfl, hI, hB, hK⟩; (try (replace HO := Aside0.mk (Kd.R_keep HO.out hK (fun k (hk : w.heap.size ≤ k) => by have := HG.out; omega)))); replace HI0 := Aside0.mk hI; replace HB := Aside0.mk hB; replace HK := Aside0.mk (HK.out.trans hK (.inl rfl)); clear hI hB hK; (try clear hc0 hc1 hf0 hf1); have hc0 := cellS67_0 HI0.out.1; have hc1 := cellS67_1 HI0.out.1; have hf0 := blk_frozen HI0.out.1 0; have hf1 := blk_frozen HI0.out.1 1; have hne : Aside0 (WN.heap.size ≠ g) := ⟨by have := HI0.out.lt; omega⟩; have hwn : Aside0 (w.heap.size ≤ WN.heap.size) := ⟨HK.out.1⟩; have hgn := Aside0.mk HI0.out.lt; replace HO := Aside0.mk (R_okM (ok' := fun k => w.heap.size ≤ k ∧ k < WN.heap.size) HO.out (fun k hk => ⟨HO.out.1 k hk, Kd.R_lt HO.out k hk⟩)))) | (go_at_call 48; ((with_reducible refine (labels_reader_sign.calls g n2 n3 g1 g2 g3 w0 _ (HI0.out.alloc (.cells #[.int .i64 0, .string n1, .string (⟨#[]⟩ : ByteArray)] 42)) (below_alloc HB.out (.cells #[.int .i64 0, .string n1, .string (⟨#[]⟩ : ByteArray)] 42)) HS.out).mono ?_); rintro e WS ⟨rfl, hI, hB, hK⟩; have BX := Aside0.mk (hK.blk (show (WN.alloc (.cells #[.int .i64 0, .string n1, .string (⟨#[]⟩ : ByteArray)] 42)).heap[WN.heap.size]? = some (.cells #[.int .i64 0, .string n1, .string (⟨#[]⟩ : ByteArray)] 42 (0, 0)) from by simpa using heap_alloc_new WN _) hne.out (by simp)); replace HO := Aside0.mk (Kd.R_keep (Kd.R_alloc HO.out (.cells #[.int .i64 0, .string n1, .string (⟨#[]⟩ : ByteArray)] 42)) hK (fun k (hk : w.heap.size ≤ k ∧ k < WN.heap.size) => by have := HG.out; omega)); replace HK := Aside0.mk ((keep_alloc HK.out (.cells #[.int .i64 0, .string n1, .string (⟨#[]⟩ : ByteArray)] 42)).trans hK (.inl rfl)); replace HI0 := Aside0.mk hI; replace HB := Aside0.mk hB; clear hI hB hK; (try clear hc0 hc1 hf0 hf1); have hc0 := cellS67_0 HI0.out.1; have hc1 := cellS67_1 HI0.out.1; have hf0 := blk_frozen HI0.out.1 0; have hf1 := blk_frozen HI0.out.1 1; have hb0 := blk_cell BX.out 0; have hb1 := blk_cell BX.out 1; have hb2 := blk_cell BX.out 2; have hbf0 := blk_frozen BX.out 0; have hbf2 := blk_frozen BX.out 2)) | (go_at_call 49; ((with_reducible refine (labels_reader_value.calls g g2 g3 x1 x2 x3 w0 _ (HI0.out.far (p := ⟨WN.heap.size, 0, none⟩) (Ne.symm hne.out) (.int .i64 g1)) (below_set (j := 0) (v := .int .i64 g1) HB.out (Nat.le_trans HW0.out hwn.out)) HX.out).mono ?_); rintro e WV ⟨rfl, hI, hB, hK⟩; replace BX : Aside0 (WV.heap[WN.heap.size]? = some (.cells #[.int .i64 g1, .string n1, .string (⟨#[]⟩ : ByteArray)] 42 (0, 0))) := ⟨hK.blk (by simpa using blk_set BX.out 0 (.int .i64 g1)) hne.out (by simp)⟩; replace HO := Aside0.mk (Kd.R_keep (Kd.R_keep HO.out ((KeepBut.refl WS WN.heap.size none).set_ 0 (.int .i64 g1)) (fun k (hk : w.heap.size ≤ k ∧ k < WN.heap.size) => by omega)) hK (fun k (hk : w.heap.size ≤ k ∧ k < WN.heap.size) => by have := HG.out; omega)); replace HK := Aside0.mk ((keep_far HK.out (p := ⟨WN.heap.size, 0, none⟩) hwn.out (.int .i64 g1)).trans hK (.inl rfl)); replace HI0 := Aside0.mk hI; replace HB := Aside0.mk hB; clear hI hB hK hb0 hb1 hb2 hbf0 hbf2; (try clear hc0 hc1 hf0 hf1); have hc0 := cellS67_0 HI0.out.1; have hc1 := cellS67_1 HI0.out.1; have hf0 := blk_frozen HI0.out.1 0; have hf1 := blk_frozen HI0.out.1 1; have hb0 := blk_cell BX.out 0; have hb1 := blk_cell BX.out 1; have hb2 := blk_cell BX.out 2; have hbf2 := blk_frozen BX.out 2)) | ((with_reducible refine gate_builtin (b := .append) (xs := #[.tmp 34, .tmp 36]) rfl ?_); at_builtin; (refine Kd.R_append k42 (w0 := (WV.setCell ⟨WN.heap.size, 2, none⟩ (.string x1))) w.heap.size rfl (.tmp 34) (.tmp 36) 37 42 (.agg #[.int .i64 0, .string ⟨#[]⟩, .string ⟨#[]⟩]) 40 rfl Try.underlying37 info42 rfl (by decide) (by omega) (.slice A3 o.length c3) o ⟨g1, n1, x1⟩ [.int .i64 g1, .string n1, .string x1] (fun k => w.heap.size ≤ k) (fun _ => False) rfl (by first | rfl | (go_simp; done) | (simp [World.setCell]; done)) ?aP (fun _ hk => hk.elim) ?aF ?aO ?aB ?aS ?aL ?_; (case aP => exact k42_mkM _ _ _ _); (case aB => exact Below.refl _ _); (case aF => exact (fun k hk => Nat.le_trans (keep_size (w := w) (g := g) (row := none) (keep_far HK.out (p := ⟨WN.heap.size, 2, none⟩) hwn.out _)) hk)); (case aO => exact R_okM (Kd.R_keep HO.out ((KeepBut.refl WV WN.heap.size none).set_ 2 _) (fun k (hk : w.heap.size ≤ k ∧ k < WN.heap.size) => by omega)) (fun k hk => (HO.out.1 k hk).1)); (case aS => exact keep_size (w := w) (g := g) (row := none) (keep_far HK.out (p := ⟨WN.heap.size, 2, none⟩) hwn.out _)); (case aL => have := HL.out; omega); intro z4 w5 ho hb hg hat; have HI1 := Aside0.mk (IsS67.grown (HI0.out.far (p := ⟨WN.heap.size, 2, none⟩) (Ne.symm hne.out) (.string x1)) hg (fun e => by have := (HO.out.1 _ e.symm).1; have := HG.out; omega)); replace HK := Aside0.mk (KeepBut.trans (keep_far HK.out (p := ⟨WN.heap.size, 2, none⟩) hwn.out (.string x1)) (KeepBut.of_grown hg g) (by cases hq_ : (Value.slice A3 o.length c3).ownBlock with | none => exact .inl rfl | some q_ => exact .inr ⟨q_, rfl, (HO.out.1 _ hq_).1⟩)); replace HB := Aside0.mk ((below_set (j := 2) (v := .string x1) HB.out (Nat.le_trans HW0.out hwn.out)).trans (hb.mono HW0.out)); replace HO := Aside0.mk ho; replace HI0 := HI1; obtain ⟨A_, c_, rfl, -⟩ := Kd.R_reads ho; clear ho hb hg hat HI1 hb0 hb1 hb2 hbf2; (try clear hc0 hc1 hf0 hf1); have hc0 := cellS67_0 HI0.out.1; have hc1 := cellS67_1 HI0.out.1; have hf0 := blk_frozen HI0.out.1 0; have hf1 := blk_frozen HI0.out.1 1)))
          go_roundg d
          case measure => omega
          case rel =>
            have ho := HO.out
            rw [HE.out] at ho
            exact ⟨x2, true, _, ⟨by have := HL.out; rw [HE.out]; omega⟩, HV, ⟨HI0.out.set_1 true⟩, ⟨below_set HB.out (IsS67.ge HI0.out)⟩, ⟨HK.out.set_ 1 _⟩, ⟨Kd.R_keep ho ((KeepBut.refl _ _ _).set_ 1 _) (fun k (hk : w.heap.size ≤ k) => by have := HG.out; omega)⟩⟩
        · rw [if_neg c16] at HV
          have y1 : decide (16 < o.length + 1) = false := decide_eq_false c16
          have y2 : decide ((16 : Int) < (o.length : Int) + 1) = false := decide_eq_false (by omega)
          clear c16
          go_wp2_with (first | (go_at_call 46; (with_reducible refine (strings_HasPrefix.calls s ⟨#[125]⟩ false _ P125.out).mono ?_); rintro e w' ⟨rfl, ⟨nd, rfl⟩⟩; have n0 := Aside0.mk (IsS67.drewN HI0.out nd); have n1 := Aside0.mk (keep_drewN HK.out nd); have n2 := Aside0.mk (pw_below_drewN HB.out nd); have n3 := Aside0.mk (Kd.R_keep HO.out (keep_drewN (KeepBut.refl wr g none) nd) (fun k (hk : w.heap.size ≤ k) => by have := HG.out; omega)); clear HI0 HK HB HO HW hc0 hc1 hf0 hf1; generalize World.drewN wr nd = WA at n0 n1 n2 n3 ⊢; have HI0 := n0; have HK := n1; have HB := n2; have HO := n3; clear n0 n1 n2 n3; (try clear hc0 hc1 hf0 hf1); have hc0 := cellS67_0 HI0.out.1; have hc1 := cellS67_1 HI0.out.1; have hf0 := blk_frozen HI0.out.1 0; have hf1 := blk_frozen HI0.out.1 1) | (go_at_call 45; ((with_reducible refine (labels_reader_take.calls g s false ⟨#[44]⟩ t1 t2 w0 _ HI0.out HB.out HTK.out).mono ?_); rintro e w1 ⟨rfl, hI, hB, hK⟩; (try (replace HO := Aside0.mk (Kd.R_keep HO.out hK (fun k (hk : w.heap.size ≤ k) => by have := HG.out; omega)))); replace HI0 := Aside0.mk hI; replace HB := Aside0.mk hB; replace HK := Aside0.mk (HK.out.trans hK (.inl rfl)); clear hI hB hK; (try clear hc0 hc1 hf0 hf1); have hc0 := cellS67_0 HI0.out.1; have hc1 := cellS67_1 HI0.out.1; have hf0 := blk_frozen HI0.out.1 0; have hf1 := blk_frozen HI0.out.1 1)) | (go_at_call 47; ((with_reducible refine (labels_reader_name.calls (t1.size + 2) g t1 t2 n1 n2 n3 w0 _ HI0.out HB.out HN.out).mono ?_); rintro e WN ⟨rfl, hI, hB, hK⟩; (try (replace HO := Aside0.mk (Kd.R_keep HO.out hK (fun k (hk : w.heap.size ≤ k) => by have := HG.out; omega)))); replace HI0 := Aside0.mk hI; replace HB := Aside0.mk hB; replace HK := Aside0.mk (HK.out.trans hK (.inl rfl)); clear hI hB hK; (try clear hc0 hc1 hf0 hf1); have hc0 := cellS67_0 HI0.out.1; have hc1 := cellS67_1 HI0.out.1; have hf0 := blk_frozen HI0.out.1 0; have hf1 := blk_frozen HI0.out.1 1; have hne : Aside0 (WN.heap.size ≠ g) := ⟨by have := HI0.out.lt; omega⟩; have hwn : Aside0 (w.heap.size ≤ WN.heap.size) := ⟨HK.out.1⟩; have hgn := Aside0.mk HI0.out.lt; replace HO := Aside0.mk (R_okM (ok' := fun k => w.heap.size ≤ k ∧ k < WN.heap.size) HO.out (fun k hk => ⟨HO.out.1 k hk, Kd.R_lt HO.out k hk⟩)))) | (go_at_call 48; ((with_reducible refine (labels_reader_sign.calls g n2 n3 g1 g2 g3 w0 _ (HI0.out.alloc (.cells #[.int .i64 0, .string n1, .string (⟨#[]⟩ : ByteArray)] 42)) (below_alloc HB.out (.cells #[.int .i64 0, .string n1, .string (⟨#[]⟩ : ByteArray)] 42)) HS.out).mono ?_); rintro e WS ⟨rfl, hI, hB, hK⟩; have BX := Aside0.mk (hK.blk (show (WN.alloc (.cells #[.int .i64 0, .string n1, .string (⟨#[]⟩ : ByteArray)] 42)).heap[WN.heap.size]? = some (.cells #[.int .i64 0, .string n1, .string (⟨#[]⟩ : ByteArray)] 42 (0, 0)) from by simpa using heap_alloc_new WN _) hne.out (by simp)); replace HO := Aside0.mk (Kd.R_keep (Kd.R_alloc HO.out (.cells #[.int .i64 0, .string n1, .string (⟨#[]⟩ : ByteArray)] 42)) hK (fun k (hk : w.heap.size ≤ k ∧ k < WN.heap.size) => by have := HG.out; omega)); replace HK := Aside0.mk ((keep_alloc HK.out (.cells #[.int .i64 0, .string n1, .string (⟨#[]⟩ : ByteArray)] 42)).trans hK (.inl rfl)); replace HI0 := Aside0.mk hI; replace HB := Aside0.mk hB; clear hI hB hK; (try clear hc0 hc1 hf0 hf1); have hc0 := cellS67_0 HI0.out.1; have hc1 := cellS67_1 HI0.out.1; have hf0 := blk_frozen HI0.out.1 0; have hf1 := blk_frozen HI0.out.1 1; have hb0 := blk_cell BX.out 0; have hb1 := blk_cell BX.out 1; have hb2 := blk_cell BX.out 2; have hbf0 := blk_frozen BX.out 0; have hbf2 := blk_frozen BX.out 2)) | (go_at_call 49; ((with_reducible refine (labels_reader_value.calls g g2 g3 x1 x2 x3 w0 _ (HI0.out.far (p := ⟨WN.heap.size, 0, none⟩) (Ne.symm hne.out) (.int .i64 g1)) (below_set (j := 0) (v := .int .i64 g1) HB.out (Nat.le_trans HW0.out hwn.out)) HX.out).mono ?_); rintro e WV ⟨rfl, hI, hB, hK⟩; replace BX : Aside0 (WV.heap[WN.heap.size]? = some (.cells #[.int .i64 g1, .string n1, .string (⟨#[]⟩ : ByteArray)] 42 (0, 0))) := ⟨hK.blk (by simpa using blk_set BX.out 0 (.int .i64 g1)) hne.out (by simp)⟩; replace HO := Aside0.mk (Kd.R_keep (Kd.R_keep HO.out ((KeepBut.refl WS WN.heap.size none).set_ 0 (.int .i64 g1)) (fun k (hk : w.heap.size ≤ k ∧ k < WN.heap.size) => by omega)) hK (fun k (hk : w.heap.size ≤ k ∧ k < WN.heap.size) => by have := HG.out; omega)); replace HK := Aside0.mk ((keep_far HK.out (p := ⟨WN.heap.size, 0, none⟩) hwn.out (.int .i64 g1)).trans hK (.inl rfl)); replace HI0 := Aside0.mk hI; replace HB := Aside0.mk hB; clear hI hB hK hb0 hb1 hb2 hbf0 hbf2; (try clear hc0 hc1 hf0 hf1); have hc0 := cellS67_0 HI0.out.1; have hc1 := cellS67_1 HI0.out.1; have hf0 := blk_frozen HI0.out.1 0; have hf1 := blk_frozen HI0.out.1 1; have hb0 := blk_cell BX.out 0; have hb1 := blk_cell BX.out 1; have hb2 := blk_cell BX.out 2; have hbf2 := blk_frozen BX.out 2)) | ((with_reducible refine gate_builtin (b := .append) (xs := #[.tmp 34, .tmp 36]) rfl ?_); at_builtin; (refine Kd.R_append k42 (w0 := (WV.setCell ⟨WN.heap.size, 2, none⟩ (.string x1))) w.heap.size rfl (.tmp 34) (.tmp 36) 37 42 (.agg #[.int .i64 0, .string ⟨#[]⟩, .string ⟨#[]⟩]) 40 rfl Try.underlying37 info42 rfl (by decide) (by omega) (.slice A3 o.length c3) o ⟨g1, n1, x1⟩ [.int .i64 g1, .string n1, .string x1] (fun k => w.heap.size ≤ k) (fun _ => False) rfl (by first | rfl | (go_simp; done) | (simp [World.setCell]; done)) ?aP (fun _ hk => hk.elim) ?aF ?aO ?aB ?aS ?aL ?_; (case aP => exact k42_mkM _ _ _ _); (case aB => exact Below.refl _ _); (case aF => exact (fun k hk => Nat.le_trans (keep_size (w := w) (g := g) (row := none) (keep_far HK.out (p := ⟨WN.heap.size, 2, none⟩) hwn.out _)) hk)); (case aO => exact R_okM (Kd.R_keep HO.out ((KeepBut.refl WV WN.heap.size none).set_ 2 _) (fun k (hk : w.heap.size ≤ k ∧ k < WN.heap.size) => by omega)) (fun k hk => (HO.out.1 k hk).1)); (case aS => exact keep_size (w := w) (g := g) (row := none) (keep_far HK.out (p := ⟨WN.heap.size, 2, none⟩) hwn.out _)); (case aL => have := HL.out; omega); intro z4 w5 ho hb hg hat; have HI1 := Aside0.mk (IsS67.grown (HI0.out.far (p := ⟨WN.heap.size, 2, none⟩) (Ne.symm hne.out) (.string x1)) hg (fun e => by have := (HO.out.1 _ e.symm).1; have := HG.out; omega)); replace HK := Aside0.mk (KeepBut.trans (keep_far HK.out (p := ⟨WN.heap.size, 2, none⟩) hwn.out (.string x1)) (KeepBut.of_grown hg g) (by cases hq_ : (Value.slice A3 o.length c3).ownBlock with | none => exact .inl rfl | some q_ => exact .inr ⟨q_, rfl, (HO.out.1 _ hq_).1⟩)); replace HB := Aside0.mk ((below_set (j := 2) (v := .string x1) HB.out (Nat.le_trans HW0.out hwn.out)).trans (hb.mono HW0.out)); replace HO := Aside0.mk ho; replace HI0 := HI1; obtain ⟨A_, c_, rfl, -⟩ := Kd.R_reads ho; clear ho hb hg hat HI1 hb0 hb1 hb2 hbf2; (try clear hc0 hc1 hf0 hf1); have hc0 := cellS67_0 HI0.out.1; have hc1 := cellS67_1 HI0.out.1; have hf0 := blk_frozen HI0.out.1 0; have hf1 := blk_frozen HI0.out.1 1)))
          go_roundg d
          case measure => omega
          case rel =>
            have ho := HO.out
            rw [HE.out] at ho
            exact ⟨x2, x3, _, ⟨by have := HL.out; rw [HE.out]; omega⟩, HV, HI0, HB, HK, ⟨ho⟩⟩
end Go.Proofs.Ytbfiacnmielajaa.P
namespace Go.Proofs.Ytbfiacnmielajaa.P
open Go.RowKit Go.Proofs.YtbfiacnmielajaaW.PrintWords Go.Proofs.YtbfiacnmielajaaW.PrintLast Go.Proofs.YtbfiacnmielajaaW.PrintMore
attribute [local go_sem] max2_int min2_int max_two min_two max_three min_three max_four min_four
set_option linter.unusedVariables false
set_option linter.unusedSimpArgs false
def labels_ParseMatchers.f (s : ByteArray) : Option (List S42 × Int) :=
  (labels_reader_all.f s false).bind fun v => if v.2.2 = true then some ([], 10) else
    (labels_CheckMatchers.f 3000 v.1).bind fun c => if c = 0 then some (v.1, 0) else some ([], 10)
set_option maxHeartbeats 8000000 in
set_option maxRecDepth 100000 in
theorem labels_ParseMatchers.calls (a0 : ByteArray) (r1 : List S42) (r2 : Int) (w : World) (h : labels_ParseMatchers.f a0 = some (r1, r2)) :
    Calls Try.prog 18 #[.string a0] w fun e w' => ∃ v0_ : Value, e = .returned (.tuple #[v0_, .int .i64 r2]) ∧ Kd.R k42 42 w' w.heap.size (fun _ => True) v0_ r1 ∧ Below w.heap.size w w' := by
  unfold labels_ParseMatchers.f at h
  replace h := Option.bind_eq_some_iff.mp h
  obtain ⟨⟨v1, v2, v3⟩, hv, h⟩ := h
  dsimp only at h
  have HV := Aside0.mk hv
  clear hv
  have HB := Aside0.mk (below_alloc (Below.refl w.heap.size w) (.cells #[.string a0, .bool false] 67))
  have HI := Aside0.mk (IsS67.new w w a0 false (Below.refl _ _))
  cases v3 with
  | true =>
    rw [if_pos rfl] at h
    simp only [Option.some.injEq, Prod.mk.injEq] at h
    obtain ⟨rfl, rfl⟩ := h
    go_enter Try.func18, Try.ntmps18
    go_wp2_with (go_at_call 33; ((with_reducible refine (labels_reader_all.calls w.heap.size a0 false v1 v2 _ w _ HI.out HB.out HV.out).mono ?_); rintro e w1 ⟨v0, rfl, hO, hI, hB, hK⟩; have HO : Aside0 (Kd.R k42 42 w1 w.heap.size (fun _ => True) v0 v1) := ⟨Kd.R_lower hO (by simp)⟩; replace HI := Aside0.mk hI; replace HB := Aside0.mk hB; obtain ⟨A_, c_, rfl, -⟩ := Kd.R_reads HO.out; clear hO hI hB hK; have hc1 := cellS67_1 HI.out.1))
    go_ret2
    exact ⟨_, rfl, Kd.R_nil _ _ _ _ _, HB.out⟩
  | false =>
    rw [if_neg (by decide)] at h
    replace h := Option.bind_eq_some_iff.mp h
    obtain ⟨c, hc, h⟩ := h
    have HC := Aside0.mk hc
    clear hc
    by_cases c0 : c = 0
    · rw [if_pos c0] at h
      subst c0
      simp only [Option.some.injEq, Prod.mk.injEq] at h
      obtain ⟨rfl, rfl⟩ := h
      go_enter Try.func18, Try.ntmps18
      go_wp2_with (first | (go_at_call 33; ((with_reducible refine (labels_reader_all.calls w.heap.size a0 false v1 v2 _ w _ HI.out HB.out HV.out).mono ?_); rintro e w1 ⟨v0, rfl, hO, hI, hB, hK⟩; have HO : Aside0 (Kd.R k42 42 w1 w.heap.size (fun _ => True) v0 v1) := ⟨Kd.R_lower hO (by simp)⟩; replace HI := Aside0.mk hI; replace HB := Aside0.mk hB; obtain ⟨A_, c_, rfl, -⟩ := Kd.R_reads HO.out; clear hO hI hB hK; have hc1 := cellS67_1 HI.out.1)) | (go_at_call 27; ((with_reducible refine (labels_CheckMatchers.calls 3000 A_ c_ v1 0 _ (Kd.R_reads' HO.out).2.2 (Kd.R_reads' HO.out).2.1 HC.out).mono ?_); rintro e w2 ⟨rfl, hb⟩; replace HO := Aside0.mk (Kd.R_below HO.out hb); replace HB := Aside0.mk (below_then HB.out HB.out.size hb); clear hb)))
      go_ret2
      exact ⟨_, rfl, HO.out, HB.out⟩
    · rw [if_neg c0] at h
      have d1 : (c != 0) = true := bne_iff_ne.2 c0
      simp only [Option.some.injEq, Prod.mk.injEq] at h
      obtain ⟨rfl, rfl⟩ := h
      go_enter Try.func18, Try.ntmps18
      go_wp2_with (first | (go_at_call 33; ((with_reducible refine (labels_reader_all.calls w.heap.size a0 false v1 v2 _ w _ HI.out HB.out HV.out).mono ?_); rintro e w1 ⟨v0, rfl, hO, hI, hB, hK⟩; have HO : Aside0 (Kd.R k42 42 w1 w.heap.size (fun _ => True) v0 v1) := ⟨Kd.R_lower hO (by simp)⟩; replace HI := Aside0.mk hI; replace HB := Aside0.mk hB; obtain ⟨A_, c_, rfl, -⟩ := Kd.R_reads HO.out; clear hO hI hB hK; have hc1 := cellS67_1 HI.out.1)) | (go_at_call 27; ((with_reducible refine (labels_CheckMatchers.calls 3000 A_ c_ v1 c _ (Kd.R_reads' HO.out).2.2 (Kd.R_reads' HO.out).2.1 HC.out).mono ?_); rintro e w2 ⟨rfl, hb⟩; replace HO := Aside0.mk (Kd.R_below HO.out hb); replace HB := Aside0.mk (below_then HB.out HB.out.size hb); clear hb)))
      go_ret2
      exact ⟨_, rfl, Kd.R_nil _ _ _ _ _, HB.out⟩
end Go.Proofs.Ytbfiacnmielajaa.P
namespace Go.Proofs.Ytbfiacnmielajaa.P
open Go.RowKit Go.Proofs.YtbfiacnmielajaaW.PrintWords Go.Proofs.YtbfiacnmielajaaW.PrintLast Go.Proofs.YtbfiacnmielajaaW.PrintMore
attribute [local go_sem] max2_int min2_int max_two min_two max_three min_three max_four min_four
set_option linter.unusedVariables false
set_option linter.unusedSimpArgs false
attribute [local go_sem high] leq_str gtr_str
def labels_Parse.l0 : Nat → List (S58) → List (S42) → Int → Int → Option ((List (S58)) × Int)
 | 0, _, _, _, _ => none
 | k + 1, x6, x17, x18, x19 => if x19 < x18 then (if 0 ≤ x19 then (if x19 < (x17.length : Int) then (if ((rd_T42 x17 x19).f0) = 0 then (if x6.length < 4398046511104 then (labels_Parse.l0 k (x6 ++ [(⟨(rd_T42 x17 x19).f1, (rd_T42 x17 x19).f2⟩ : S58)]) x17 x18 (wrap64 (x19 + 1))) else (none)) else (some (([] : List (S58)), 10))) else (none)) else (none)) else ((labels_Check.f k x6).bind fun t110 => (if t110 = 0 then (some (x6, 0)) else (some (([] : List (S58)), 10))))
def labels_Parse.f (k : Nat) (a0 : ByteArray) : Option ((List (S58)) × Int) := (labels_ParseMatchers.f a0).bind fun bt101 => (if bt101.2 = 0 then (labels_Parse.l0 k ([] : List (S58)) bt101.1 (bt101.1.length : Int) 0) else (some (([] : List (S58)), bt101.2)))
set_option maxHeartbeats 8000000 in
set_option maxRecDepth 100000 in
theorem labels_Parse.calls (k : Nat) (a0 : ByteArray) (r1 : List (S58)) (r2 : Int) (w : World) (h : labels_Parse.f k a0 = some (r1, r2)) :
  Calls Try.prog 15 #[.string a0] w fun e w' => ∃ v0_ : Value, e = .returned (.tuple #[v0_, .int .i64 r2]) ∧ Kd.R k58 58 w' w.heap.size (fun _ => True) v0_ r1 ∧ Below w.heap.size w w' := by
 have hu42 := Try.underlying42
 have hu58 := Try.underlying58
 have HB := Aside0.mk (Below.refl w.heap.size w)
 have H : ((labels_ParseMatchers.f a0).bind fun bt101 => (if bt101.2 = 0 then (labels_Parse.l0 k ([] : List (S58)) bt101.1 (bt101.1.length : Int) 0) else (some (([] : List (S58)), bt101.2)))) = some (r1, r2) := h
 clear h
 replace H := Option.bind_eq_some_iff.mp H
 obtain ⟨⟨t101, t102⟩, A20, H⟩ := H
 replace H : (if t102 = 0 then (labels_Parse.l0 k ([] : List (S58)) t101 (t101.length : Int) 0) else (some (([] : List (S58)), t102))) = some (r1, r2) := H
 have A2 := Aside0.mk A20
 clear A20
 by_cases c3 : t102 = 0
 ·rw [if_pos c3] at H
  have c3b0 : (t102 == 0) = true := beq_iff_eq.mpr c3
  have c3b1 : (t102 != 0) = false := bne_eq_false_iff_eq.mpr c3
  clear c3
  have H' := Aside0.mk H
  clear H
  go_enter Try.func15, Try.ntmps15
  go_wp2_with (first | ((with_reducible refine gate_callee (f := 18) rfl ?_); refine goesL_ (some 11) rfl rfl Try.func18 (by kernel_rfl) rfl #[.string a0] rfl (by (try simp only [List.map_toArray, List.map_cons, List.map_nil]); first | done | rfl | (simp only [List.length_drop, List.length_take]; rfl)) ?_; (with_reducible refine (labels_ParseMatchers.calls a0 t101 t102 _ A2.out).mono ?_); rintro e w4 ⟨v103, rfl, ho0, hb⟩; refine ⟨_, rfl, ?_⟩; have n0_ := Aside0.mk (Kd.R_lower ho0 (below_size (by repeat (first | (with_reducible first | exact HB.out | apply below_alloc | apply pw_below_drewN | apply below_drew1) | exact HB.out)))); have n1_ := Aside0.mk (below_step (by repeat (first | (with_reducible first | exact HB.out | apply below_alloc | apply pw_below_drewN | apply below_drew1) | exact HB.out)) hb); clear HB; have HO104 := n0_; have HB := n1_; clear n0_ n1_; (try clear hb); (try clear hb2); (try clear hk); (try clear hi); (try clear ho0); clear A2; obtain ⟨Ao5, co5, eo5⟩ := Kd.R_slice HO104.out; subst eo5))
  go_loopg [6, 19] k (fun kq v6 v19 w' => ∃ (x6_1 : List (S58)) (x19_1 : Int), v19 = .int .i64 x19_1 ∧ Aside0 (labels_Parse.l0 kq x6_1 t101 (t101.length : Int) x19_1 = some (r1, r2)) ∧ Aside0 (kq ≤ k) ∧ Aside0 (Kd.R k58 58 w' w.heap.size (fun _ => True) v6 x6_1) ∧ Aside0 (Kd.R k42 42 w' w.heap.size (fun _ => True) (.slice Ao5 t101.length co5) t101) ∧ Aside0 (Below w.heap.size w w'))
  case atStart => exact ⟨(([] : List (S58))), (0), (by first | rfl | (simp; done) | (simp [*]; done)), H', ⟨Nat.le_refl _⟩, ⟨by first | exact Kd.R_nil _ _ _ _ _ | exact Kd.N_nil _ _ _ _ _ | exact Kd.V_nil _ _ _ _ _ | exact Kd.Q_nil _ _ _ _ _ | exact Kd.S_nil _ _ _ _ _⟩, ⟨by (with_reducible repeat (first | apply Kd.R_alloc | apply Kd.R_drewN | apply Kd.R_drew)); exact HO104.out⟩, ⟨by repeat (first | (with_reducible first | exact HB.out | apply below_alloc | apply pw_below_drewN | apply below_drew1) | exact HB.out)⟩⟩
  case round =>
   clear H'
   try clear c1
   try clear p2
   try clear c3
   try clear c3b0
   try clear c3b1
   obtain ⟨x6_1, x19_1, rfl, HA, HK1, HO_6, HO_17, HB⟩ := hrel
   cases gk with
   | zero => exact absurd HA.out (by simp [labels_Parse.l0])
   | succ k1 =>
    have H := HA.out
    clear HA
    simp only [labels_Parse.l0] at H
    by_cases c6 : x19_1 < (t101.length : Int)
    ·rw [if_pos c6] at H
     have c6b0 : decide (x19_1 < (t101.length : Int)) = true := decide_eq_true c6
     clear c6
     by_cases c7 : 0 ≤ x19_1
     ·rw [if_pos c7] at H
      have c7b0 : decide (0 ≤ x19_1) = true := decide_eq_true c7
      clear c7
      by_cases c8 : x19_1 < (t101.length : Int)
      ·rw [if_pos c8] at H
       have c8b0 : decide (x19_1 < (t101.length : Int)) = true := decide_eq_true c8
       clear c8
       by_cases c9 : ((rd_T42 t101 x19_1).f0) = 0
       ·rw [if_pos c9] at H
        have c9b0 : (((rd_T42 t101 x19_1).f0) == 0) = true := beq_iff_eq.mpr c9
        have c9b1 : (((rd_T42 t101 x19_1).f0) != 0) = false := bne_eq_false_iff_eq.mpr c9
        clear c9
        by_cases c10 : x6_1.length < 4398046511104
        ·rw [if_pos c10] at H
         have LMc10 := Aside0.mk c10
         clear c10
         obtain ⟨y107, hy107⟩ : ∃ y_ : List (S58), y_ = (x6_1 ++ [(⟨(rd_T42 t101 x19_1).f1, (rd_T42 t101 x19_1).f2⟩ : S58)]) := ⟨_, rfl⟩
         replace H : (labels_Parse.l0 k1 y107 t101 (t101.length : Int) (wrap64 (x19_1 + 1))) = some (r1, r2) := by first | (rw [hy107]; with_reducible exact H) | (have H2_ := (Option.bind_some _ _).symm.trans H; rw [hy107]; with_reducible exact H2_) | (have H2_ := (Option.bind_some _ _).symm.trans H; with_reducible exact H2_) | with_reducible exact H | (rw [hy107]; exact H) | exact H
         have Ny107 := Aside0.mk hy107
         clear hy107
         have H' := Aside0.mk H
         clear H
         have p105 : 0 ≤ (x19_1 : Int) := of_decide_eq_true (by first | (with_reducible assumption) | assumption)
         have q105 : x19_1 < (t101.length : Int) := of_decide_eq_true (by first | (with_reducible assumption) | assumption)
         obtain ⟨ad105, e105, hx105_0, hx105_1, hx105_2⟩ := at_T42 (Kd.R_reads' HO_17.out).2.2 x19_1 p105 q105
         cases e105
         replace p105 := eq_true p105
         replace q105 := eq_true q105
         go_wp2_with (first | ((with_reducible refine gate_dst (N := 8) rfl ?_); refine box_event ?hg (N := 8) ?hd (cs := #[.int .i64 0, .string (⟨#[]⟩ : ByteArray), .string (⟨#[]⟩ : ByteArray)]) (t := 42) ?hr ?_; (case hd => rfl); (case hg => rfl); (case hr => first | (go_simp; done) | (go_simp; rfl)); intro gb106 hg w11 hbox hb; have n0_ := Aside0.mk (Kd.R_below (by (with_reducible repeat (first | apply Kd.R_alloc | apply Kd.R_drewN | apply Kd.R_drew)); exact HO_6.out) hb); have n1_ := Aside0.mk (Kd.R_below (Kd.R_elderB (by (with_reducible repeat (first | apply Kd.R_alloc | apply Kd.R_drewN | apply Kd.R_drew)); exact HO_17.out) gb106 (Nat.le_of_eq hg.symm)) hb); have n2_ := Aside0.mk (below_step (by repeat (first | (with_reducible first | exact HB.out | apply below_alloc | apply pw_below_drewN | apply below_drew1) | exact HB.out)) hb); have n3_ := Aside0.mk (hbox); have n4_ := Aside0.mk ((by rw [hg]; exact (below_size (by repeat (first | (with_reducible first | exact HB.out | apply below_alloc | apply pw_below_drewN | apply below_drew1) | exact HB.out))) : w.heap.size ≤ gb106)); have n5_ := Aside0.mk ((by rw [hg]; exact (below_size (by repeat (first | (with_reducible first | exact HB.out | apply below_alloc | apply pw_below_drewN | apply below_drew1) | exact HB.out))) : w.heap.size ≤ gb106)); clear HO_6; clear HO_17; clear HB; have HO_6 := n0_; have HO_17 := n1_; have HB := n2_; have BK106 := n3_; have GW106 := n4_; have GE106 := n5_; clear n0_ n1_ n2_ n3_ n4_ n5_; clear hb hbox hg; have hcz12_0 : w11.cell? ⟨gb106, 0, none⟩ = some (.int .i64 0) := (blk_cell BK106.out 0).trans rfl; have hcz12_1 : w11.cell? ⟨gb106, 1, none⟩ = some (.string (⟨#[]⟩ : ByteArray)) := (blk_cell BK106.out 1).trans rfl; have hcz12_2 : w11.cell? ⟨gb106, 2, none⟩ = some (.string (⟨#[]⟩ : ByteArray)) := (blk_cell BK106.out 2).trans rfl; have hfz12_0 := blk_frozen BK106.out 0; have hfz12_1 := blk_frozen BK106.out 1; have hfz12_2 := blk_frozen BK106.out 2) | ((with_reducible refine gate_builtin (b := .append) (xs := #[.tmp 26, .tmp 32]) rfl ?_); at_builtin; refine Kd.R_append k58 (w0 := w) w.heap.size rfl (.tmp 26) (.tmp 32) 22 58 (.agg #[(.string ⟨#[]⟩), (.string ⟨#[]⟩)]) 32 rfl Try.underlying22 info58 rfl (by decide) (by omega) u6 x6_1 (⟨(rd_T42 t101 x19_1).f1, (rd_T42 t101 x19_1).f2⟩ : S58) [.string ((rd_T42 t101 x19_1).f1), .string ((rd_T42 t101 x19_1).f2)] (fun _ => True) (fun _ => False) rfl (by first | (go_simp; done) | (go_simp; rfl)) ?aP (fun _ hk => hk.elim) ?aF ?aO ?aB ?aS ?aL ?_; (case aP => exact k58_mkM _ _ _ (⟨(rd_T42 t101 x19_1).f1, (rd_T42 t101 x19_1).f2⟩ : S58)); (case aB => exact (by repeat (first | (with_reducible first | exact HB.out | apply below_alloc | apply pw_below_drewN | apply below_drew1 | refine below_set ?_ GE106.out) | exact HB.out))); (case aF => exact (fun _ _ => trivial)); (case aO => exact (by (with_reducible repeat (first | apply Kd.R_alloc | apply Kd.R_drewN | apply Kd.R_drew)); exact Kd.R_mono (Kd.R_far (p := ⟨gb106, 2, none⟩) (Kd.R_far (p := ⟨gb106, 1, none⟩) (Kd.R_far (p := ⟨gb106, 0, none⟩) (Kd.R_types HO_6.out BK106.out (by decide)) (fun _ hk => hk.2) (.int .i64 ((rd_T42 t101 x19_1).f0))) (fun _ hk => hk.2) (.string ((rd_T42 t101 x19_1).f1))) (fun _ hk => hk.2) (.string ((rd_T42 t101 x19_1).f2))) (fun _ hk => trivial))); (case aS => exact (below_size (by repeat (first | (with_reducible first | exact HB.out | apply below_alloc | apply pw_below_drewN | apply below_drew1 | refine below_set ?_ GE106.out) | exact HB.out)))); (case aL => have := LMc10.out; omega); intro v108 w13 ho hb hg hat; rw [← Ny107.out] at ho; have n0_ := Aside0.mk (Kd.R_over' (by (with_reducible repeat (first | apply Kd.R_alloc | apply Kd.R_drewN | apply Kd.R_drew)); exact (Kd.R_mono (Kd.R_far (p := ⟨gb106, 2, none⟩) (Kd.R_far (p := ⟨gb106, 1, none⟩) (Kd.R_far (p := ⟨gb106, 0, none⟩) (Kd.R_mono HO_17.out (fun k_ hk => (⟨hk, hk.2⟩ : _ ∧ k_ ≠ gb106))) (fun _ hk => hk.2) (.int .i64 ((rd_T42 t101 x19_1).f0))) (fun _ hk => hk.2) (.string ((rd_T42 t101 x19_1).f1))) (fun _ hk => hk.2) (.string ((rd_T42 t101 x19_1).f2))) (fun _ h_ => h_.1))) (Kd.R_typed (by (with_reducible repeat (first | apply Kd.R_alloc | apply Kd.R_drewN | apply Kd.R_drew)); exact (Kd.R_mono (Kd.R_far (p := ⟨gb106, 2, none⟩) (Kd.R_far (p := ⟨gb106, 1, none⟩) (Kd.R_far (p := ⟨gb106, 0, none⟩) (Kd.R_types HO_6.out BK106.out (by decide)) (fun _ hk => hk.2) (.int .i64 ((rd_T42 t101 x19_1).f0))) (fun _ hk => hk.2) (.string ((rd_T42 t101 x19_1).f1))) (fun _ hk => hk.2) (.string ((rd_T42 t101 x19_1).f2))) (fun _ h_ => h_.1)))) (by decide) hg); have n1_ := Aside0.mk (blk_grown (g := gb106) (o := .cells #[.int .i64 ((rd_T42 t101 x19_1).f0), .string ((rd_T42 t101 x19_1).f1), .string ((rd_T42 t101 x19_1).f2)] 42 (0, 0)) (by (with_reducible repeat (first | refine blk_drewN ?_ _ | refine blk_drew ?_ | refine blk_alloc ?_ _)); refine blk_put (cs := #[.int .i64 ((rd_T42 t101 x19_1).f0), .string ((rd_T42 t101 x19_1).f1), .string (⟨#[]⟩ : ByteArray)]) ?_ 2 _ rfl; (with_reducible repeat (first | refine blk_drewN ?_ _ | refine blk_drew ?_ | refine blk_alloc ?_ _)); refine blk_put (cs := #[.int .i64 ((rd_T42 t101 x19_1).f0), .string (⟨#[]⟩ : ByteArray), .string (⟨#[]⟩ : ByteArray)]) ?_ 1 _ rfl; (with_reducible repeat (first | refine blk_drewN ?_ _ | refine blk_drew ?_ | refine blk_alloc ?_ _)); refine blk_put (cs := #[.int .i64 0, .string (⟨#[]⟩ : ByteArray), .string (⟨#[]⟩ : ByteArray)]) ?_ 0 _ rfl; (with_reducible repeat (first | refine blk_drewN ?_ _ | refine blk_drew ?_ | refine blk_alloc ?_ _)); exact BK106.out) hg (Kd.R_ne HO_6.out BK106.out (by decide))); have n2_ := Aside0.mk (hb); have n3_ := Aside0.mk (ho); clear HO_17; clear BK106; clear HB; clear HO_6; have HO_17 := n0_; have BK106 := n1_; have HB := n2_; have HO109 := n3_; clear n0_ n1_ n2_ n3_; clear ho hb hg hat))
         go_roundg k1
         case measure => have := HK1.out; omega
         case rel => exact ⟨(y107), (wrap64 (x19_1 + 1)), (by first | rfl | (simp; done) | (simp [*]; done)), H', ⟨by have := HK1.out; omega⟩, ⟨by (with_reducible repeat (first | apply Kd.R_alloc | apply Kd.R_drewN | apply Kd.R_drew)); exact HO109.out⟩, ⟨by (with_reducible repeat (first | apply Kd.R_alloc | apply Kd.R_drewN | apply Kd.R_drew)); exact Kd.R_mono HO_17.out (fun _ hk => trivial)⟩, ⟨by repeat (first | (with_reducible first | exact HB.out | apply below_alloc | apply pw_below_drewN | apply below_drew1 | refine below_set ?_ GE106.out) | exact HB.out)⟩⟩
        ·rw [if_neg c10] at H
         exact absurd H (by simp)
       ·rw [if_neg c9] at H
        have c9b0 : (((rd_T42 t101 x19_1).f0) == 0) = false := beq_eq_false_iff_ne.mpr c9
        have c9b1 : (((rd_T42 t101 x19_1).f0) != 0) = true := bne_iff_ne.mpr c9
        simp only [Option.some.injEq, Prod.mk.injEq] at H
        obtain ⟨rfl, rfl⟩ := H
        have p105 : 0 ≤ (x19_1 : Int) := of_decide_eq_true (by first | (with_reducible assumption) | assumption)
        have q105 : x19_1 < (t101.length : Int) := of_decide_eq_true (by first | (with_reducible assumption) | assumption)
        obtain ⟨ad105, e105, hx105_0, hx105_1, hx105_2⟩ := at_T42 (Kd.R_reads' HO_17.out).2.2 x19_1 p105 q105
        cases e105
        replace p105 := eq_true p105
        replace q105 := eq_true q105
        go_wp2_with (first | ((with_reducible refine gate_dst (N := 8) rfl ?_); refine box_event ?hg (N := 8) ?hd (cs := #[.int .i64 0, .string (⟨#[]⟩ : ByteArray), .string (⟨#[]⟩ : ByteArray)]) (t := 42) ?hr ?_; (case hd => rfl); (case hg => rfl); (case hr => first | (go_simp; done) | (go_simp; rfl)); intro gb106 hg w14 hbox hb; have n0_ := Aside0.mk (Kd.R_below (by (with_reducible repeat (first | apply Kd.R_alloc | apply Kd.R_drewN | apply Kd.R_drew)); exact HO_6.out) hb); have n1_ := Aside0.mk (Kd.R_below (Kd.R_elderB (by (with_reducible repeat (first | apply Kd.R_alloc | apply Kd.R_drewN | apply Kd.R_drew)); exact HO_17.out) gb106 (Nat.le_of_eq hg.symm)) hb); have n2_ := Aside0.mk (below_step (by repeat (first | (with_reducible first | exact HB.out | apply below_alloc | apply pw_below_drewN | apply below_drew1) | exact HB.out)) hb); have n3_ := Aside0.mk (hbox); have n4_ := Aside0.mk ((by rw [hg]; exact (below_size (by repeat (first | (with_reducible first | exact HB.out | apply below_alloc | apply pw_below_drewN | apply below_drew1) | exact HB.out))) : w.heap.size ≤ gb106)); have n5_ := Aside0.mk ((by rw [hg]; exact (below_size (by repeat (first | (with_reducible first | exact HB.out | apply below_alloc | apply pw_below_drewN | apply below_drew1) | exact HB.out))) : w.heap.size ≤ gb106)); clear HO_6; clear HO_17; clear HB; have HO_6 := n0_; have HO_17 := n1_; have HB := n2_; have BK106 := n3_; have GW106 := n4_; have GE106 := n5_; clear n0_ n1_ n2_ n3_ n4_ n5_; clear hb hbox hg; have hcz15_0 : w14.cell? ⟨gb106, 0, none⟩ = some (.int .i64 0) := (blk_cell BK106.out 0).trans rfl; have hcz15_1 : w14.cell? ⟨gb106, 1, none⟩ = some (.string (⟨#[]⟩ : ByteArray)) := (blk_cell BK106.out 1).trans rfl; have hcz15_2 : w14.cell? ⟨gb106, 2, none⟩ = some (.string (⟨#[]⟩ : ByteArray)) := (blk_cell BK106.out 2).trans rfl; have hfz15_0 := blk_frozen BK106.out 0; have hfz15_1 := blk_frozen BK106.out 1; have hfz15_2 := blk_frozen BK106.out 2))
        go_ret2
        exact ⟨_, by first | rfl | (simp [errW_none, errW_some] <;> rfl) | (simp [*, errW_none, errW_some] <;> rfl), by first | exact Kd.R_nil _ _ _ _ _ | exact Kd.N_nil _ _ _ _ _ | exact Kd.V_nil _ _ _ _ _ | exact Kd.Q_nil _ _ _ _ _ | exact Kd.S_nil _ _ _ _ _, by repeat (first | (with_reducible first | exact HB.out | apply below_alloc | apply pw_below_drewN | apply below_drew1 | refine below_set ?_ GE106.out) | exact HB.out)⟩
      ·rw [if_neg c8] at H
       exact absurd H (by simp)
     ·rw [if_neg c7] at H
      exact absurd H (by simp)
    ·rw [if_neg c6] at H
     have c6b0 : decide (x19_1 < (t101.length : Int)) = false := decide_eq_false c6
     clear c6
     replace H := Option.bind_eq_some_iff.mp H
     obtain ⟨t110, A160, H⟩ := H
     replace H : (if t110 = 0 then (some (x6_1, 0)) else (some (([] : List (S58)), 10))) = some (r1, r2) := H
     have A16 := Aside0.mk A160
     clear A160
     by_cases c17 : t110 = 0
     ·rw [if_pos c17] at H
      have c17b0 : (t110 == 0) = true := beq_iff_eq.mpr c17
      have c17b1 : (t110 != 0) = false := bne_eq_false_iff_eq.mpr c17
      clear c17
      simp only [Option.some.injEq, Prod.mk.injEq] at H
      obtain ⟨rfl, rfl⟩ := H
      obtain ⟨Ao18, co18, eo18⟩ := Kd.R_slice HO_6.out
      subst eo18
      go_wp2_with (first | ((with_reducible refine gate_callee (f := 14) rfl ?_); refine goesL_ (some 36) rfl rfl Try.func14 (by kernel_rfl) rfl #[.slice Ao18 x6_1.length co18] rfl (by (try simp only [List.map_toArray, List.map_cons, List.map_nil]); first | done | rfl | (simp only [List.length_drop, List.length_take]; rfl)) ?_; (with_reducible refine (labels_Check.calls k1 _ _ x6_1 t110 _ ?side1 ?side2 A16.out).mono ?_); (case side1 => repeat (first | exact (Kd.R_reads' HO_6.out).2.2 | (with_reducible refine Kd.C_alloc ?_ _) | (with_reducible refine Kd.C_drewN ?_ _) | (with_reducible refine Kd.C_drew ?_))); (case side2 => exact (Kd.R_reads' HO_6.out).2.1); rintro e w19 ⟨rfl, hb⟩; refine ⟨_, rfl, ?_⟩; have n0_ := Aside0.mk (Kd.R_below (by (with_reducible repeat (first | apply Kd.R_alloc | apply Kd.R_drewN | apply Kd.R_drew)); exact HO_6.out) hb); have n1_ := Aside0.mk (Kd.R_below (by (with_reducible repeat (first | apply Kd.R_alloc | apply Kd.R_drewN | apply Kd.R_drew)); exact HO_17.out) hb); have n2_ := Aside0.mk (below_step (by repeat (first | (with_reducible first | exact HB.out | apply below_alloc | apply pw_below_drewN | apply below_drew1) | exact HB.out)) hb); clear HO_6; clear HO_17; clear HB; have HO_6 := n0_; have HO_17 := n1_; have HB := n2_; clear n0_ n1_ n2_; (try clear hb); (try clear hb2); (try clear hk); (try clear hi); clear A16))
      go_ret2
      exact ⟨_, by first | rfl | (simp [errW_none, errW_some] <;> rfl) | (simp [*, errW_none, errW_some] <;> rfl), by (with_reducible repeat (first | apply Kd.R_alloc | apply Kd.R_drewN | apply Kd.R_drew)); exact HO_6.out, by repeat (first | (with_reducible first | exact HB.out | apply below_alloc | apply pw_below_drewN | apply below_drew1) | exact HB.out)⟩
     ·rw [if_neg c17] at H
      have c17b0 : (t110 == 0) = false := beq_eq_false_iff_ne.mpr c17
      have c17b1 : (t110 != 0) = true := bne_iff_ne.mpr c17
      simp only [Option.some.injEq, Prod.mk.injEq] at H
      obtain ⟨rfl, rfl⟩ := H
      obtain ⟨Ao20, co20, eo20⟩ := Kd.R_slice HO_6.out
      subst eo20
      go_wp2_with (first | ((with_reducible refine gate_callee (f := 14) rfl ?_); refine goesL_ (some 36) rfl rfl Try.func14 (by kernel_rfl) rfl #[.slice Ao20 x6_1.length co20] rfl (by (try simp only [List.map_toArray, List.map_cons, List.map_nil]); first | done | rfl | (simp only [List.length_drop, List.length_take]; rfl)) ?_; (with_reducible refine (labels_Check.calls k1 _ _ x6_1 t110 _ ?side1 ?side2 A16.out).mono ?_); (case side1 => repeat (first | exact (Kd.R_reads' HO_6.out).2.2 | (with_reducible refine Kd.C_alloc ?_ _) | (with_reducible refine Kd.C_drewN ?_ _) | (with_reducible refine Kd.C_drew ?_))); (case side2 => exact (Kd.R_reads' HO_6.out).2.1); rintro e w21 ⟨rfl, hb⟩; refine ⟨_, rfl, ?_⟩; have n0_ := Aside0.mk (Kd.R_below (by (with_reducible repeat (first | apply Kd.R_alloc | apply Kd.R_drewN | apply Kd.R_drew)); exact HO_6.out) hb); have n1_ := Aside0.mk (Kd.R_below (by (with_reducible repeat (first | apply Kd.R_alloc | apply Kd.R_drewN | apply Kd.R_drew)); exact HO_17.out) hb); have n2_ := Aside0.mk (below_step (by repeat (first | (with_reducible first | exact HB.out | apply below_alloc | apply pw_below_drewN | apply below_drew1) | exact HB.out)) hb); clear HO_6; clear HO_17; clear HB; have HO_6 := n0_; have HO_17 := n1_; have HB := n2_; clear n0_ n1_ n2_; (try clear hb); (try clear hb2); (try clear hk); (try clear hi); clear A16))
      go_ret2
      exact ⟨_, by first | rfl | (simp [errW_none, errW_some] <;> rfl) | (simp [*, errW_none, errW_some] <;> rfl), by first | exact Kd.R_nil _ _ _ _ _ | exact Kd.N_nil _ _ _ _ _ | exact Kd.V_nil _ _ _ _ _ | exact Kd.Q_nil _ _ _ _ _ | exact Kd.S_nil _ _ _ _ _, by repeat (first | (with_reducible first | exact HB.out | apply below_alloc | apply pw_below_drewN | apply below_drew1) | exact HB.out)⟩
 ·rw [if_neg c3] at H
  have c3b0 : (t102 == 0) = false := beq_eq_false_iff_ne.mpr c3
  have c3b1 : (t102 != 0) = true := bne_iff_ne.mpr c3
  simp only [Option.some.injEq, Prod.mk.injEq] at H
  obtain ⟨rfl, rfl⟩ := H
  go_enter Try.func15, Try.ntmps15
  go_wp2_with (first | ((with_reducible refine gate_callee (f := 18) rfl ?_); refine goesL_ (some 11) rfl rfl Try.func18 (by kernel_rfl) rfl #[.string a0] rfl (by (try simp only [List.map_toArray, List.map_cons, List.map_nil]); first | done | rfl | (simp only [List.length_drop, List.length_take]; rfl)) ?_; (with_reducible refine (labels_ParseMatchers.calls a0 t101 t102 _ A2.out).mono ?_); rintro e w22 ⟨v103, rfl, ho0, hb⟩; refine ⟨_, rfl, ?_⟩; have n0_ := Aside0.mk (Kd.R_lower ho0 (below_size (by repeat (first | (with_reducible first | exact HB.out | apply below_alloc | apply pw_below_drewN | apply below_drew1) | exact HB.out)))); have n1_ := Aside0.mk (below_step (by repeat (first | (with_reducible first | exact HB.out | apply below_alloc | apply pw_below_drewN | apply below_drew1) | exact HB.out)) hb); clear HB; have HO104 := n0_; have HB := n1_; clear n0_ n1_; (try clear hb); (try clear hb2); (try clear hk); (try clear hi); (try clear ho0); clear A2))
  go_ret2
  exact ⟨_, by first | rfl | (simp [errW_none, errW_some] <;> rfl) | (simp [*, errW_none, errW_some] <;> rfl), by first | exact Kd.R_nil _ _ _ _ _ | exact Kd.N_nil _ _ _ _ _ | exact Kd.V_nil _ _ _ _ _ | exact Kd.Q_nil _ _ _ _ _ | exact Kd.S_nil _ _ _ _ _, by repeat (first | (with_reducible first | exact HB.out | apply below_alloc | apply pw_below_drewN | apply below_drew1) | exact HB.out)⟩
end Go.Proofs.Ytbfiacnmielajaa.P
namespace Go.Proofs.Ytbfiacnmielajaa.P
open Go.RowKit Go.Proofs.YtbfiacnmielajaaW.PrintWords Go.Proofs.YtbfiacnmielajaaW.PrintLast Go.Proofs.YtbfiacnmielajaaW.PrintMore
attribute [local go_sem] max2_int min2_int max_two min_two max_three min_three max_four min_four
set_option linter.unusedVariables false
set_option linter.unusedSimpArgs false
theorem index_one (c : UInt8) : ∀ s : List UInt8, Lib.index s [c] = Lib.indexByte s c
  | [] => rfl
  | a :: s => by
    have ih := index_one c s
    simp only [Lib.index, Lib.indexByte]
    rw [ih]
    by_cases h : a = c
    · subst h; simp [List.isPrefixOf]
    · simp [List.isPrefixOf, h, Ne.symm h]
def holdsB (s t : ByteArray) : Bool := Lib.contains s.data.toList t.data.toList
def hpB (s t : ByteArray) : Bool := (strings_HasPrefix.f s t).getD false
theorem hpB_eq (s t : ByteArray) : strings_HasPrefix.f s t = some (hpB s t) := by
  unfold hpB strings_HasPrefix.f stringslite_HasPrefix.f
  by_cases h : (s.size : Int) ≥ (t.size : Int)
  · rw [if_pos h, if_pos (by omega), if_pos (by omega)]; rfl
  · rw [if_neg h]; rfl
def GMax (w : World) : Prop := ∃ m, w.cell? ⟨lay144_ren.g 1, 0, none⟩ = some (.int .i64 m)
theorem GMax.below {w w' : World} (h : GMax w) (hb : Below w.heap.size w w') : GMax w' := by
  obtain ⟨m, h⟩ := h
  exact ⟨m, (hb.cell (World.block_lt_of_cell? _ _ h)).trans h⟩
def OkH (k : Int) (t v : ByteArray) (w : World) : Prop := k = 3 → (∃ c, t = ⟨#[c]⟩) ∨ (v.size < 4294967281 ∧ GMax w)
theorem OkH.below {k : Int} {t v : ByteArray} {w w' : World} (h : OkH k t v w) (hb : Below w.heap.size w w') : OkH k t v w' := fun hk => (h hk).imp id (fun x => ⟨x.1, x.2.below hb⟩)
theorem contains_c (s t : ByteArray) (w : World) (h : (∃ c, t = ⟨#[c]⟩) ∨ (s.size < 4294967281 ∧ GMax w)) : Calls Try.prog 51 #[.string s, .string t] w fun e w' => e = .returned (.bool (holdsB s t)) ∧ w = w' := by
  rcases h with ⟨c, rfl⟩ | ⟨h1, m, h2⟩
  · refine (Any.strings_Contains_one lay144 s c w).mono fun e w' h => ⟨?_, h.2.symm⟩
    rw [h.1]
    unfold holdsB Lib.contains
    rw [← index_one]
  · exact (Any.strings_Contains lay144 s t m w h1 h2).mono fun e w' h => ⟨h.1, h.2.symm⟩
def fitsR (k : Int) (t v : ByteArray) : Bool := if k = 0 then v.toList == t.toList else if k = 1 then !(v.toList == t.toList) else if k = 2 then hpB v t else if k = 3 then holdsB v t else false
set_option maxHeartbeats 8000000 in
set_option maxRecDepth 100000 in
theorem fits_c (k : Int) (n t v : ByteArray) (w : World) (hok : OkH k t v w) : Calls Try.prog 36 #[.agg #[.int .i64 k, .string n, .string t], .string v] w fun e w' => e = .returned (.bool (fitsR k t v)) ∧ Below w.heap.size w w' := by
  have hu := Try.underlying42
  have HB := Aside0.mk (below_alloc (Below.refl w.heap.size w) (.cells #[.int .i64 k, .string n, .string t] 42))
  have HO := Aside0.mk (hok.below HB.out)
  clear hok
  unfold fitsR
  by_cases k0 : k = 0
  · subst k0
    rw [if_pos rfl]
    go_enter Try.func36, Try.ntmps36
    go_wp2
    go_ret
    exact ⟨rfl, HB.out⟩
  have e0 : (k == 0) = false := beq_eq_false_iff_ne.2 k0
  rw [if_neg k0]
  by_cases k1 : k = 1
  · subst k1
    rw [if_pos rfl]
    clear k0 e0
    go_enter Try.func36, Try.ntmps36
    go_wp2
    go_ret
    exact ⟨rfl, HB.out⟩
  have e1 : (k == 1) = false := beq_eq_false_iff_ne.2 k1
  rw [if_neg k1]
  by_cases k2 : k = 2
  · subst k2
    rw [if_pos rfl]
    clear k0 e0 k1 e1
    have HP := Aside0.mk (hpB_eq v t)
    go_enter Try.func36, Try.ntmps36
    go_wp2_with (go_at_call 46; (with_reducible refine (strings_HasPrefix.calls v t _ _ HP.out).mono ?_); rintro e w' ⟨rfl, ⟨nd, rfl⟩⟩)
    go_ret
    exact ⟨rfl, pw_below_drewN HB.out _⟩
  have e2 : (k == 2) = false := beq_eq_false_iff_ne.2 k2
  rw [if_neg k2]
  by_cases k3 : k = 3
  · have HC := Aside0.mk (contains_c v t _ (HO.out k3))
    subst k3
    rw [if_pos rfl]
    clear k0 e0 k1 e1 k2 e2 HO
    go_enter Try.func36, Try.ntmps36
    go_wp2_with (go_at_call 51; (with_reducible refine HC.out.mono ?_); rintro e w' ⟨rfl, rfl⟩)
    go_ret
    exact ⟨rfl, HB.out⟩
  have e3 : (k == 3) = false := beq_eq_false_iff_ne.2 k3
  rw [if_neg k3]
  clear k0 k1 k2 k3 HO
  go_enter Try.func36, Try.ntmps36
  go_wp2
  go_ret
  exact ⟨rfl, HB.out⟩
theorem rdL_nat9 (l : List S58) (i : Nat) (h : i < l.length) : rd_T58 l (i : Int) = l[i] := by unfold rd_T58; simp [List.getD, h]
def getP : List S58 → ByteArray → ByteArray × Bool
  | [], _ => (⟨#[]⟩, false)
  | x :: l, n => if x.f0.toList == n.toList then (x.f1, true) else getP l n
theorem get_l0 (n : ByteArray) (l : List S58) (hl : l.length ≤ 1000000) : ∀ (d k i : Nat), i + d = l.length → d < k → labels_Get.l0 k n l (l.length : Int) (i : Int) = some (getP (l.drop i) n) := by
  intro d
  induction d with
  | zero =>
    intro k i hi hk
    obtain ⟨k, rfl⟩ : ∃ m, k = m + 1 := ⟨k - 1, by omega⟩
    simp only [labels_Get.l0]
    rw [if_neg (by omega), List.drop_of_length_le (by omega)]
    rfl
  | succ d ih =>
    intro k i hi hk
    obtain ⟨k, rfl⟩ : ∃ m, k = m + 1 := ⟨k - 1, by omega⟩
    have hw : wrap64 ((i : Int) + 1) = ((i + 1 : Nat) : Int) := by unfold wrap64; omega
    simp only [labels_Get.l0]
    rw [if_pos (by omega), if_pos (by omega), if_pos (by omega), hw, ih k (i + 1) (by omega) (by omega), rdL_nat9 l i (by omega), List.drop_eq_getElem_cons (show i < l.length by omega)]
    simp only [getP]
    by_cases h : (l[i]'(show i < l.length by omega)).f0.toList = n.toList
    · rw [if_pos h, if_pos (beq_iff_eq.2 h)]
    · rw [if_neg h, if_neg (fun e => h (beq_iff_eq.1 e))]
theorem get_eq (l : List S58) (n : ByteArray) (hl : l.length ≤ 1000000) (k : Nat) (hk : l.length < k) : labels_Get.f k l n = some (getP l n) := by
  unfold labels_Get.f
  rw [show (0 : Int) = ((0 : Nat) : Int) from rfl, get_l0 n l hl l.length k 0 (by omega) hk]
  rfl
def missB (l : List S58) (x : S42) : Bool := !(fitsR x.f0 x.f2 (getP l x.f1).1)
def matchR (l : List S58) (m : List S42) : Bool := m.all fun x => !(missB l x)
set_option maxHeartbeats 8000000 in
set_option maxRecDepth 100000 in
theorem miss_c (l : List S58) (hl : l.length ≤ 1000000) (x : S42) (A : Option Addr) (c b : Nat) (w : World) (hr : Kd.C k58 w A l.length l) (hc : l.length ≤ c) (hb : w.cell? ⟨b, 0, none⟩ = some (.slice A l.length c)) (hok : OkH x.f0 x.f2 (getP l x.f1).1 w) :
    Calls Try.prog 35 #[.agg #[.int .i64 x.f0, .string x.f1, .string x.f2], .pointer (some ⟨b, 0, none⟩)] w fun e w' => e = .returned (.bool (missB l x)) ∧ Below w.heap.size w w' := by
  obtain ⟨k, n, t⟩ := x
  dsimp only at hok ⊢
  unfold missB
  dsimp only
  have hu := Try.underlying42
  have HB := Aside0.mk (below_alloc (Below.refl w.heap.size w) (.cells #[.int .i64 k, .string n, .string t] 42))
  have BX := Aside0.mk (blk_new w (.cells #[.int .i64 k, .string n, .string t] 42))
  have hb' := (HB.out.cell (World.block_lt_of_cell? _ _ hb)).trans hb
  have HR := Aside0.mk (Kd.C_below hr HB.out)
  have HO := Aside0.mk (hok.below HB.out)
  have HG := Aside0.mk (get_eq l n hl (l.length + 1) (by omega))
  clear hr hb hok
  generalize getP l n = pr at HO HG ⊢
  obtain ⟨v, q⟩ := pr
  dsimp only at HO HG ⊢
  have hc0 := blk_cell BX.out 0
  have hc1 := blk_cell BX.out 1
  have hc2 := blk_cell BX.out 2
  go_enter Try.func35, Try.ntmps35
  go_wp2_with (first | (go_at_call 20; ((with_reducible refine (labels_Get.calls (l.length + 1) A c l n v q _ HR.out hc HG.out).mono ?_); rintro e w1 ⟨rfl, hb⟩; replace HB := Aside0.mk (below_then HB.out HB.out.size hb); replace HO := Aside0.mk (HO.out.below hb); replace BX := Aside0.mk (blk_below BX.out hb); clear hb; have hd0 := blk_cell BX.out 0; have hd1 := blk_cell BX.out 1; have hd2 := blk_cell BX.out 2)) | (go_at_call 36; ((with_reducible refine (fits_c k n t v _ HO.out).mono ?_); rintro e w2 ⟨rfl, hb⟩; replace HB := Aside0.mk (below_then HB.out HB.out.size hb); clear hb)))
  go_ret
  exact ⟨rfl, HB.out⟩
theorem rdM_nat9 (l : List S42) (i : Nat) (h : i < l.length) : rd_T42 l (i : Int) = l[i] := by unfold rd_T42; simp [List.getD, h]
def idxM (p : S42 → Bool) : Nat → List S42 → Int
  | _, [] => -1
  | i, x :: l => if p x then (i : Int) else idxM p (i + 1) l
set_option maxHeartbeats 8000000 in
set_option maxRecDepth 100000 in
theorem indexFunc_c (g : Nat) (cap : Array Value) (p : S42 → Bool) (A : Option Addr) (c : Nat) (l : List S42) (w : World) (hr : Kd.C k42 w A l.length l) (hc : l.length ≤ c)
    (hp : ∀ (W : World) (x : S42), x ∈ l → Below w.heap.size w W → Calls Try.prog g (#[.agg #[.int .i64 x.f0, .string x.f1, .string x.f2]] ++ cap) W fun e w' => e = .returned (.bool (p x)) ∧ Below W.heap.size W w') (eg : ∀ args w, (callFunc g args).run Try.prog w = .ok (.enter g args) w) :
    Calls Try.prog 50 #[.slice A l.length c, .func (.func g) #[] cap] w fun e w' => e = .returned (.int .i64 (idxM p 0 l)) ∧ Below w.heap.size w w' := by
  have hu := Try.underlying42
  have hm : l.length ≤ 9223372036854775807 := hr.2.1
  have HR := Aside0.mk hr
  have HP := Aside0.mk hp
  clear hr hp
  go_enter Try.func50, Try.ntmps50
  go_wp2
  go_loopg [5, 8] l.length (fun gg _ s8 wr => ∃ kk : Nat, kk + gg = l.length ∧ s8 = .int .i64 kk ∧ Aside0 (Below w.heap.size w wr) ∧ Aside0 (idxM p kk (l.drop kk) = idxM p 0 l))
  case atStart => exact ⟨0, by omega, rfl, ⟨Below.refl _ w⟩, ⟨rfl⟩⟩
  case round =>
    obtain ⟨kk, hg, rfl, HB, HA⟩ := hrel
    by_cases hlt : kk < l.length
    · have hlti : (kk : Int) < (l.length : Int) := by omega
      obtain ⟨g1, rfl⟩ : ∃ m, gk = m + 1 := ⟨gk - 1, by omega⟩
      have ha := HA.out
      rw [List.drop_eq_getElem_cons hlt] at ha
      simp only [idxM] at ha
      obtain ⟨ad, e1, hx0, hx1, hx2⟩ := at_T42 HR.out kk (by omega) (by omega)
      cases e1
      replace hx0 := (HB.out.cell (World.block_lt_of_cell? w _ hx0)).trans hx0
      replace hx1 := (HB.out.cell (World.block_lt_of_cell? w _ hx1)).trans hx1
      replace hx2 := (HB.out.cell (World.block_lt_of_cell? w _ hx2)).trans hx2
      rw [rdM_nat9 l kk hlt, Int.toNat_natCast] at hx0 hx1 hx2
      have hcall := HP.out wr l[kk] (List.getElem_mem hlt) HB.out
      generalize l[kk] = y at hx0 hx1 hx2 hcall ha
      clear HA
      cases hq : p y with
      | true =>
        rw [hq] at hcall ha
        rw [if_pos rfl] at ha
        have HA := Aside0.mk ha
        have HC := Aside0.mk hcall
        clear hcall ha hq
        go_wp2_with (go_at_fn g; refine HC.out.mono ?_; rintro e w' ⟨rfl, hb'⟩)
        go_ret
        exact ⟨by rw [← HA.out]; rfl, HB.out.trans (hb'.mono HB.out.size)⟩
      | false =>
        rw [hq] at hcall ha
        rw [if_neg (by decide)] at ha
        have HA := Aside0.mk ha
        have HC := Aside0.mk hcall
        clear hcall ha hq
        go_wp2_with (go_at_fn g; refine HC.out.mono ?_; rintro e w' ⟨rfl, hb'⟩)
        go_roundg g1
        case measure => omega
        case rel => exact ⟨kk + 1, by omega, by go_num, ⟨HB.out.trans (hb'.mono HB.out.size)⟩, HA⟩
    · have hlti : ¬ (kk : Int) < (l.length : Int) := by omega
      have ha := HA.out
      rw [List.drop_of_length_le (by omega)] at ha
      have HA := Aside0.mk ha
      clear ha
      go_wp2
      go_ret
      exact ⟨by rw [← HA.out]; rfl, HB.out⟩
theorem idxM_any (p : S42 → Bool) : ∀ (l : List S42) (i : Nat), 0 ≤ idxM p i l ↔ l.any p = true
  | [], _ => by simp [idxM]
  | x :: l, i => by
    unfold idxM
    rw [List.any_cons]
    by_cases h : p x = true
    · rw [if_pos h, h]; simp
    · rw [if_neg h, Bool.eq_false_iff.2 h, Bool.false_or]; exact idxM_any p l (i + 1)
set_option maxHeartbeats 8000000 in
set_option maxRecDepth 100000 in
theorem match_c (A0 : Option Addr) (c0 : Nat) (l0 : List S58) (A1 : Option Addr) (c1 : Nat) (l1 : List S42) (w : World) (hl : l0.length ≤ 1000000) (hr0 : Kd.C k58 w A0 l0.length l0) (hc0 : l0.length ≤ c0) (hr1 : Kd.C k42 w A1 l1.length l1) (hc1 : l1.length ≤ c1) (hok : ∀ x ∈ l1, OkH x.f0 x.f2 (getP l0 x.f1).1 w) :
    Calls Try.prog 22 #[.slice A0 l0.length c0, .slice A1 l1.length c1] w fun e w' => e = .returned (.bool (matchR l0 l1)) ∧ Below w.heap.size w w' := by
  have hb := below_alloc (Below.refl w.heap.size w) (.cells #[.slice A0 l0.length c0] 22)
  have hbx := blk_new w (.cells #[.slice A0 l0.length c0] 22)
  have hi := indexFunc_c 35 #[.pointer (some ⟨w.heap.size, 0, none⟩)] (missB l0) A1 c1 l1 (w.alloc (.cells #[.slice A0 l0.length c0] 22)) (Kd.C_below hr1 hb) hc1
    (fun W x hx hbW => miss_c l0 hl x A0 c0 w.heap.size W (Kd.C_below (Kd.C_below hr0 hb) hbW) hc0 ((hbW.cell (World.block_lt_of_cell? _ _ ((blk_cell hbx 0).trans rfl))).trans ((blk_cell hbx 0).trans rfl)) (((hok x hx).below hb).below hbW)) (enters_of Try.func35 (by kernel_rfl) rfl)
  have ha : decide (0 ≤ idxM (missB l0) 0 l1) = l1.any (missB l0) := by rw [Bool.eq_iff_iff, decide_eq_true_iff]; exact idxM_any _ _ _
  have hm : matchR l0 l1 = !(l1.any (missB l0)) := by unfold matchR; rw [List.any_eq_not_all_not]; simp
  rw [hm, ← ha]
  have HI := Aside0.mk hi
  have HB := Aside0.mk hb
  clear hi hb hbx hok hr0 hr1 ha hm
  go_enter Try.func22, Try.ntmps22
  go_wp2_with (first | (go_at_call 50; ((with_reducible refine HI.out.mono ?_); rintro e w1 ⟨rfl, hb⟩; replace HB := Aside0.mk (below_then HB.out HB.out.size hb); clear hb)) | go_in)
  go_ret
  exact ⟨rfl, HB.out⟩
theorem byte1 (t : ByteArray) (h : t.size = 1) : ∃ c, t = ⟨#[c]⟩ := by
  obtain ⟨a⟩ := t
  obtain ⟨l⟩ := a
  have h' : l.length = 1 := h
  match l, h' with
  | [c], _ => exact ⟨c, rfl⟩
def labels_Match.f (l : List S58) (m : List S42) : Option Bool := if l.length ≤ 1000000 ∧ ∀ x ∈ m, x.f0 = 3 → x.f2.size = 1 then some (matchR l m) else none
theorem labels_Match.calls (A0 : Option Addr) (c0 : Nat) (l0 : List S58) (A1 : Option Addr) (c1 : Nat) (l1 : List S42) (r : Bool) (w : World) (hr0 : Kd.C k58 w A0 l0.length l0) (hc0 : l0.length ≤ c0) (hr1 : Kd.C k42 w A1 l1.length l1) (hc1 : l1.length ≤ c1) (h : labels_Match.f l0 l1 = some r) :
    Calls Try.prog 22 #[.slice A0 l0.length c0, .slice A1 l1.length c1] w fun e w' => e = .returned (.bool r) ∧ Below w.heap.size w w' := by
  unfold labels_Match.f at h
  by_cases hs : l0.length ≤ 1000000 ∧ ∀ x ∈ l1, x.f0 = 3 → x.f2.size = 1
  rotate_left
  · rw [if_neg hs] at h; cases h
  rw [if_pos hs] at h
  injection h with h
  subst h
  exact match_c A0 c0 l0 A1 c1 l1 w hs.1 hr0 hc0 hr1 hc1 (fun x hx hk => .inl (byte1 _ (hs.2 x hx hk)))
end Go.Proofs.Ytbfiacnmielajaa.P
namespace Go.Proofs.Ytbfiacnmielajaa.P
open Go.RowKit Go.Proofs.YtbfiacnmielajaaW.PrintWords Go.Proofs.YtbfiacnmielajaaW.PrintLast Go.Proofs.YtbfiacnmielajaaW.PrintMore
attribute [local go_sem] max2_int min2_int max_two min_two max_three min_three max_four min_four
set_option linter.unusedVariables false
set_option linter.unusedSimpArgs false
def cmpB (a b : ByteArray) : Int := Lib.compareBytes a.data.toList b.data.toList
theorem strCmp_c (a b : ByteArray) (w : World) : Calls Try.prog 41 #[.string a, .string b] w fun e w' => e = .returned (.int .i64 (cmpB a b)) ∧ w = w' :=
  (Any.strings_Compare lay106 a b w).mono fun e w' h => ⟨h.1, h.2.symm⟩
def or2 (a b : Int) : Int := if a = 0 then b else a
set_option maxHeartbeats 4000000 in
set_option maxRecDepth 100000 in
theorem or2_c (a b : Int) (blk c : Nat) (w : World) (h0 : w.cell? ⟨blk, 0, none⟩ = some (.int .i64 a)) (h1 : w.cell? ⟨blk, 1, none⟩ = some (.int .i64 b)) (hc : 2 ≤ c) :
    Calls Try.prog 40 #[.slice (some ⟨blk, 0, none⟩) 2 c] w fun e w' => e = .returned (.int .i64 (or2 a b)) ∧ w = w' := by
  unfold or2
  by_cases ha : a = 0
  · rw [if_pos ha]
    subst ha
    by_cases hb : b = 0
    · subst hb
      go_enter Try.func40, Try.ntmps40
      go_wp2
      go_loopg [8, 5] 2 (fun gg v8 _ wr => ∃ (x : Int), x + (gg : Int) = 2 ∧ 0 ≤ x ∧ x ≤ 2 ∧ v8 = .int .i64 x ∧ w = wr)
      case atStart => exact ⟨0, by omega, by omega, by omega, rfl, rfl⟩
      case round =>
        obtain ⟨x, hi, hx, hl, rfl, rfl⟩ := hrel
        cases gk with
        | zero =>
          obtain rfl : x = 2 := by omega
          clear hx hi hl
          go_wp2
          go_ret
          exact ⟨rfl, rfl⟩
        | succ g =>
          obtain rfl | rfl : x = 0 ∨ x = 1 := by omega
          · clear hx hl
            go_wp2
            go_roundg g
            case measure => omega
            case rel => exact ⟨_, by omega, by omega, by omega, rfl, rfl⟩
          · clear hx hl
            go_wp2
            go_roundg g
            case measure => omega
            case rel => exact ⟨_, by omega, by omega, by omega, rfl, rfl⟩
    · have hb' : (b != 0) = true := bne_iff_ne.2 hb
      go_enter Try.func40, Try.ntmps40
      go_wp2
      go_loopg [8, 5] 2 (fun gg v8 _ wr => ∃ (x : Int), x + (gg : Int) = 2 ∧ 0 ≤ x ∧ x ≤ 1 ∧ v8 = .int .i64 x ∧ w = wr)
      case atStart => exact ⟨0, by omega, by omega, by omega, rfl, rfl⟩
      case round =>
        obtain ⟨x, hi, hx, hl, rfl, rfl⟩ := hrel
        cases gk with
        | zero => exact absurd hl (by omega)
        | succ g =>
          obtain rfl | rfl : x = 0 ∨ x = 1 := by omega
          · clear hx hl
            go_wp2
            go_roundg g
            case measure => omega
            case rel => exact ⟨_, by omega, by omega, by omega, rfl, rfl⟩
          · clear hx hl
            go_wp2
            go_ret
            exact ⟨rfl, rfl⟩
  · rw [if_neg ha]
    have ha' : (a != 0) = true := bne_iff_ne.2 ha
    go_enter Try.func40, Try.ntmps40
    go_wp2
    go_loopg [8, 5] 2 (fun gg v8 _ wr => ∃ (x : Int), x + (gg : Int) = 2 ∧ 0 ≤ x ∧ x ≤ 0 ∧ v8 = .int .i64 x ∧ w = wr)
    case atStart => exact ⟨0, by omega, by omega, by omega, rfl, rfl⟩
    case round =>
      obtain ⟨x, hi, hx, hl, rfl, rfl⟩ := hrel
      cases gk with
      | zero => exact absurd hl (by omega)
      | succ g =>
        obtain rfl | rfl : x = 0 ∨ x = 1 := by omega
        · clear hx hl
          go_wp2
          go_ret
          exact ⟨rfl, rfl⟩
        · exact absurd hl (by omega)
def cmpL1 (x y : S58) : Int := or2 (cmpB x.f0 y.f0) (cmpB x.f1 y.f1)
set_option maxHeartbeats 8000000 in
set_option maxRecDepth 100000 in
theorem cmpFn_c (x y : S58) (w : World) : Calls Try.prog 39 #[.agg #[.string x.f0, .string x.f1], .agg #[.string y.f0, .string y.f1]] w fun e w' => e = .returned (.int .i64 (cmpL1 x y)) ∧ Below w.heap.size w w' := by
  obtain ⟨n, v⟩ := x
  obtain ⟨m, u⟩ := y
  have hu := Try.underlying58
  dsimp only
  unfold cmpL1
  dsimp only
  go_enter Try.func39, Try.ntmps39
  have hb0 := blk_new w (.cells #[.string n, .string v] 58)
  have hb1 : ((w.alloc (.cells #[.string n, .string v] 58)).alloc (.cells #[.string m, .string u] 58)).heap[w.heap.size + 1]? = some (.cells #[.string m, .string u] 58 (0, 0)) := by simpa using blk_new (w.alloc (.cells #[.string n, .string v] 58)) (.cells #[.string m, .string u] 58)
  have B0 := Aside0.mk (blk_alloc hb0 (.cells #[.string m, .string u] 58))
  have B1 := Aside0.mk hb1
  have HB := Aside0.mk (below_alloc (below_alloc (Below.refl w.heap.size w) (.cells #[.string n, .string v] 58)) (.cells #[.string m, .string u] 58))
  clear hb0 hb1
  go_wp2
  generalize (w.alloc (.cells #[.string n, .string v] 58)).alloc (.cells #[.string m, .string u] 58) = W at B0 B1 HB ⊢
  replace HB := Aside0.mk (below_drew1 HB.out)
  replace B0 : Aside0 (W.drew.heap[w.heap.size]? = some (.cells #[.string n, .string v] 58 (0, 0))) := ⟨B0.out⟩
  replace B1 : Aside0 (W.drew.heap[w.heap.size + 1]? = some (.cells #[.string m, .string u] 58 (0, 0))) := ⟨B1.out⟩
  have HN := Aside0.mk (strCmp_c n m)
  have HV := Aside0.mk (strCmp_c v u)
  go_region_held3 (fun X => X.cell? ⟨w.heap.size, 0, none⟩ = some (.string n) ∧ X.cell? ⟨w.heap.size, 1, none⟩ = some (.string v) ∧ X.cell? ⟨w.heap.size + 1, 0, none⟩ = some (.string m) ∧ X.cell? ⟨w.heap.size + 1, 1, none⟩ = some (.string u)) (first | exact ⟨(blk_cell B0.out 0).trans rfl, (blk_cell B0.out 1).trans rfl, (blk_cell B1.out 0).trans rfl, (blk_cell B1.out 1).trans rfl⟩ | exact ⟨(blk_cell (blk_alloc B0.out _) 0).trans rfl, (blk_cell (blk_alloc B0.out _) 1).trans rfl, (blk_cell (blk_alloc B1.out _) 0).trans rfl, (blk_cell (blk_alloc B1.out _) 1).trans rfl⟩) (first | (go_at_call 41; (with_reducible refine (HN.out _).mono ?_); rintro e w1 ⟨rfl, rfl⟩) | (go_at_call 41; (with_reducible refine (HV.out _).mono ?_); rintro e w1 ⟨rfl, rfl⟩) | (go_at_call 40; (refine (or2_c (cmpB n m) (cmpB v u) W.drew.heap.size 2 _ ((blk_cell (blk_new _ _) 0).trans rfl) ((blk_cell (blk_new _ _) 1).trans rfl) (Nat.le_refl _)).mono ?_); rintro e w1 ⟨rfl, rfl⟩))
  all_goals go_wp2
  all_goals go_ret
  all_goals exact ⟨rfl, below_alloc HB.out _⟩
theorem rdL_nat (l : List S58) (i : Nat) (h : i < l.length) : rd_T58 l (i : Int) = l[i] := by unfold rd_T58; simp [List.getD, h]
def compR : List S58 → List S58 → Int
  | [], [] => 0
  | [], _ :: _ => -1
  | _ :: _, [] => 1
  | x :: a, y :: b => if cmpL1 x y = 0 then compR a b else cmpL1 x y
def labels_Compare.f (a b : List S58) : Option Int := some (compR a b)
set_option maxHeartbeats 8000000 in
set_option maxRecDepth 100000 in
theorem compareFunc_c (A0 : Option Addr) (c0 : Nat) (l0 : List S58) (A1 : Option Addr) (c1 : Nat) (l1 : List S58) (w : World) (hr0 : Kd.C k58 w A0 l0.length l0) (hc0 : l0.length ≤ c0) (hr1 : Kd.C k58 w A1 l1.length l1) (hc1 : l1.length ≤ c1) :
    Calls Try.prog 38 #[.slice A0 l0.length c0, .slice A1 l1.length c1, .func (.func 39) #[] #[]] w fun e w' => e = .returned (.int .i64 (compR l0 l1)) ∧ Below w.heap.size w w' := by
  have hm0 : l0.length ≤ 9223372036854775807 := hr0.2.1
  have hm1 : l1.length ≤ 9223372036854775807 := hr1.2.1
  have HR := Aside0.mk hr0
  have HS := Aside0.mk hr1
  have hu := Try.underlying58
  clear hr0 hr1
  go_enter Try.func38, Try.ntmps38
  go_wp2
  go_loopg [13, 7, 10] l0.length (fun gg v13 _ _ wr => ∃ (i : Nat), i + gg = l0.length ∧ i ≤ l1.length ∧ v13 = .int .i64 i ∧ Aside0 (Below w.heap.size w wr) ∧ Aside0 (compR (l0.drop i) (l1.drop i) = compR l0 l1))
  case atStart => exact ⟨0, by omega, Nat.zero_le _, rfl, ⟨Below.refl _ _⟩, ⟨rfl⟩⟩
  case round =>
    obtain ⟨i, hi, hi1, rfl, HB, HC⟩ := hrel
    cases gk with
    | zero =>
      have hc := HC.out
      rw [List.drop_of_length_le (show l0.length ≤ i by omega)] at hc
      have d0 : decide ((i : Int) < (l0.length : Int)) = false := decide_eq_false (by omega)
      have d0n : decide (i < l0.length) = false := decide_eq_false (by omega)
      by_cases hl : l0.length < l1.length
      · have d1 : decide ((l0.length : Int) < (l1.length : Int)) = true := decide_eq_true (by omega)
        have d1n : decide (l0.length < l1.length) = true := decide_eq_true hl
        rw [List.drop_eq_getElem_cons (show i < l1.length by omega)] at hc
        have hc' : (-1 : Int) = compR l0 l1 := hc
        replace HC := Aside0.mk hc'
        clear hc'
        clear hc hi hi1
        go_wp2
        go_ret
        exact ⟨by rw [← HC.out]; rfl, HB.out⟩
      · have d1 : decide ((l0.length : Int) < (l1.length : Int)) = false := decide_eq_false (by omega)
        have d1n : decide (l0.length < l1.length) = false := decide_eq_false hl
        rw [List.drop_of_length_le (show l1.length ≤ i by omega)] at hc
        have HC := Aside0.mk hc
        clear hc hi hi1
        go_wp2
        go_ret
        exact ⟨by rw [← HC.out]; rfl, HB.out⟩
    | succ g1 =>
      have hlt : i < l0.length := by omega
      have hc := HC.out
      rw [List.drop_eq_getElem_cons hlt] at hc
      obtain ⟨ad, e1, hx0, hx1⟩ := at_T58 HR.out (i : Int) (by omega) (by omega)
      cases e1
      replace hx0 := (HB.out.cell (World.block_lt_of_cell? w _ hx0)).trans hx0
      replace hx1 := (HB.out.cell (World.block_lt_of_cell? w _ hx1)).trans hx1
      rw [rdL_nat l0 i hlt, Int.toNat_natCast] at hx0 hx1
      have d0 : decide ((i : Int) < (l0.length : Int)) = true := decide_eq_true (by omega)
      have d0n : decide (i < l0.length) = true := decide_eq_true hlt
      have p0 : (0 ≤ (i : Int)) = True := eq_true (by omega)
      by_cases hl1 : i < l1.length
      · obtain ⟨bd, e2, hy0, hy1⟩ := at_T58 HS.out (i : Int) (by omega) (by omega)
        cases e2
        replace hy0 := (HB.out.cell (World.block_lt_of_cell? w _ hy0)).trans hy0
        replace hy1 := (HB.out.cell (World.block_lt_of_cell? w _ hy1)).trans hy1
        rw [rdL_nat l1 i hl1, Int.toNat_natCast] at hy0 hy1
        rw [List.drop_eq_getElem_cons hl1] at hc
        have d1 : decide ((l1.length : Int) ≤ (i : Int)) = false := decide_eq_false (by omega)
        have d1n : decide (l1.length ≤ i) = false := decide_eq_false (by omega)
        have hcell := cmpFn_c l0[i] l1[i]
        simp only [compR] at hc
        generalize l0[i] = x at *
        generalize l1[i] = y at *
        have HF := Aside0.mk hcell
        clear hcell HC
        have hbx := HB.out
        have lx0 := World.block_lt_of_cell? _ _ hx0
        have ly0 := World.block_lt_of_cell? _ _ hy0
        by_cases hz : cmpL1 x y = 0
        · rw [if_pos hz] at hc
          rw [hz] at HF
          have HC := Aside0.mk hc
          clear hc hz hbx
          go_wp2_with (go_at_call 39; (with_reducible refine (HF.out _).mono ?_); rintro e w1 ⟨rfl, hb⟩; have HB1 := Aside0.mk (below_then (below_alloc (below_alloc HB.out (.cells #[.string x.f0, .string x.f1] 58)) (.cells #[.string y.f0, .string y.f1] 58)) (by have := HB.out.size; simp; omega) hb); clear hb)
          go_roundg g1
          case measure => omega
          case rel => exact ⟨i + 1, by omega, by omega, by go_num, HB1, HC⟩
        · rw [if_neg hz] at hc
          have dz : (cmpL1 x y != 0) = true := bne_iff_ne.2 hz
          have HC := Aside0.mk hc
          clear hc hz hbx
          go_wp2_with (go_at_call 39; (with_reducible refine (HF.out _).mono ?_); rintro e w1 ⟨rfl, hb⟩; have HB1 := Aside0.mk (below_then (below_alloc (below_alloc HB.out (.cells #[.string x.f0, .string x.f1] 58)) (.cells #[.string y.f0, .string y.f1] 58)) (by have := HB.out.size; simp; omega) hb); clear hb)
          go_ret
          exact ⟨by rw [← HC.out]; rfl, HB1.out⟩
      · have d1 : decide ((l1.length : Int) ≤ (i : Int)) = true := decide_eq_true (by omega)
        have d1n : decide (l1.length ≤ i) = true := decide_eq_true (by omega)
        rw [List.drop_of_length_le (show l1.length ≤ i by omega)] at hc
        have HC1 := Aside0.mk hc
        clear hc hl1 HC
        have HB1 := Aside0.mk (below_alloc HB.out (.cells #[.string (l0[i]).f0, .string (l0[i]).f1] 58))
        go_wp2
        go_ret
        exact ⟨by rw [← HC1.out]; rfl, HB1.out⟩
set_option maxHeartbeats 4000000 in
set_option maxRecDepth 100000 in
theorem labels_Compare.calls (A0 : Option Addr) (c0 : Nat) (l0 : List S58) (A1 : Option Addr) (c1 : Nat) (l1 : List S58) (r : Int) (w : World) (hr0 : Kd.C k58 w A0 l0.length l0) (hc0 : l0.length ≤ c0) (hr1 : Kd.C k58 w A1 l1.length l1) (hc1 : l1.length ≤ c1) (h : labels_Compare.f l0 l1 = some r) :
    Calls Try.prog 24 #[.slice A0 l0.length c0, .slice A1 l1.length c1] w fun e w' => e = .returned (.int .i64 r) ∧ Below w.heap.size w w' := by
  injection h with h
  subst h
  have HF := Aside0.mk (compareFunc_c A0 c0 l0 A1 c1 l1 w hr0 hc0 hr1 hc1)
  clear hr0 hr1
  go_enter Try.func24, Try.ntmps24
  go_wp2_with (go_at_call 38; (with_reducible refine HF.out.mono ?_); rintro e w1 ⟨rfl, hb⟩; have HB := Aside0.mk hb; clear hb)
  go_ret
  exact ⟨rfl, HB.out⟩
end Go.Proofs.Ytbfiacnmielajaa.P
namespace Go.Proofs.Ytbfiacnmielajaa.P
open Go.RowKit Go.Proofs.YtbfiacnmielajaaW.PrintWords Go.Proofs.YtbfiacnmielajaaW.PrintLast Go.Proofs.YtbfiacnmielajaaW.PrintMore
set_option linter.unusedVariables false
set_option linter.unusedSimpArgs false
def lc : List S58 := [⟨⟨#[106, 111, 98]⟩, ⟨#[97, 112, 105]⟩⟩, ⟨⟨#[122, 111, 110, 101]⟩, ⟨#[97, 34, 98]⟩⟩]
def tc : ByteArray := ⟨#[123, 106, 111, 98, 61, 34, 97, 112, 105, 34, 44, 122, 111, 110, 101, 61, 34, 97, 92, 34, 98, 34, 125]⟩
def sc : ByteArray := ⟨#[123, 122, 111, 110, 101, 42, 61, 34, 98, 34, 44, 106, 111, 98, 33, 61, 34, 120, 34, 125]⟩
def mc : List S42 := [⟨3, ⟨#[122, 111, 110, 101]⟩, ⟨#[98]⟩⟩, ⟨1, ⟨#[106, 111, 98]⟩, ⟨#[120]⟩⟩]
theorem tc_eq : labels_Text.f 50 lc = some (tc, 0) := by kernel_rfl
theorem pc_eq : labels_Parse.f 50 tc = some (lc, 0) := by kernel_rfl
theorem mc_eq : labels_ParseMatchers.f sc = some (mc, 0) := by kernel_rfl
theorem bc_eq : labels_Parse.f 50 ⟨#[123, 98, 61, 34, 34, 44, 97, 61, 34, 34, 125]⟩ = some ([], 10) := by kernel_rfl
theorem gc_eq : labels_Get.f 50 lc ⟨#[106, 111, 98]⟩ = some (⟨#[97, 112, 105]⟩, true) := by kernel_rfl
theorem hc_eq : labels_Match.f lc mc = some true := by kernel_rfl
theorem cc_eq : labels_Compare.f lc [⟨⟨#[106, 111, 98]⟩, ⟨#[97, 112, 105]⟩⟩] = some 1 := by kernel_rfl
theorem kc_eq : labels_Check.f 50 [⟨⟨#[]⟩, ⟨#[]⟩⟩] = some 10 := by kernel_rfl
theorem C_head {W : World} {a : Addr} {n : Nat} {x : S58} {l : List S58} (h : Kd.C k58 W (some a) n (x :: l)) : Kd.C k58 W (some a) 1 [x] := by
  obtain ⟨h1, h2, h3⟩ := h
  obtain ⟨b, e, hb⟩ := h3 (by rw [← h1]; simp)
  cases e
  refine ⟨rfl, by decide, fun _ => ⟨a, rfl, fun j p hj => hb j p ?_⟩⟩
  cases j with
  | zero => exact hj
  | succ j => simp at hj
theorem C_fresh {W : World} {b : Nat} {x : S58} {t : TypeId} (h : W.heap[b]? = some (.cells #[.string x.f0, .string x.f1] t (0, 0))) : Kd.C k58 W (some ⟨b, 0, none⟩) 1 [x] := by
  refine ⟨rfl, by decide, fun _ => ⟨_, rfl, fun j p hj => ?_⟩⟩
  cases j with
  | succ j => simp at hj
  | zero =>
    obtain rfl : x = p := by simpa using hj
    refine ⟨[.string x.f0, .string x.f1], rfl, k58_mk W x, fun i u hu => ?_⟩
    match i, hu with
    | 0, hu => exact (blk_cell h 0).trans hu
    | 1, hu => exact (blk_cell h 1).trans hu
    | i + 2, hu => simp at hu
theorem cells4 {W : World} {a1 a3 : Addr} {n m : Nat} (h : Kd.C k58 W (some a1) n lc) (k : Kd.C k58 W (some a3) m lc) : W.cell? ⟨a1.block, a1.off + 2, none⟩ = some (.string (⟨#[122, 111, 110, 101]⟩ : ByteArray)) ∧ W.cell? ⟨a1.block, a1.off + 2 + 1, none⟩ = some (.string (⟨#[97, 34, 98]⟩ : ByteArray)) ∧ W.cell? ⟨a3.block, a3.off + 2, none⟩ = some (.string (⟨#[122, 111, 110, 101]⟩ : ByteArray)) ∧ W.cell? ⟨a3.block, a3.off + 2 + 1, none⟩ = some (.string (⟨#[97, 34, 98]⟩ : ByteArray)) := by
  have hn : n = 2 := h.1.symm.trans rfl
  have hm : m = 2 := k.1.symm.trans rfl
  obtain ⟨b1, e1, hx0, hx1⟩ := at_T58 h 1 (by decide) (by omega)
  obtain ⟨b3, e3, hy0, hy1⟩ := at_T58 k 1 (by decide) (by omega)
  cases e1
  cases e3
  exact ⟨hx0, hx1, hy0, hy1⟩
theorem mc_eq2 : labels_ParseMatchers.f ⟨#[123, 122, 111, 110, 101, 42, 61, 34, 98, 34, 44, 106, 111, 98, 33, 61, 34, 120, 34, 125]⟩ = some (mc, 0) := mc_eq
set_option maxHeartbeats 16000000 in
set_option maxRecDepth 100000 in
theorem awake_c (w : World) : Calls Try.prog 11 #[] w fun e w' => e = .returned (.bool true) ∧ Below w.heap.size w w' := by
  have huL := Try.underlying58
  have htc : (⟨#[123, 106, 111, 98, 61, 34, 97, 112, 105, 34, 44, 122, 111, 110, 101, 61, 34, 97, 92, 34, 98, 34, 125]⟩ : ByteArray) = tc := rfl
  go_enter Try.func11, Try.ntmps11
  go_wp2_with (first | ((with_reducible refine gate_dst (N := 14) rfl ?_); refine Kd.R_lit k58 _ 58 ?hg (N := 14) ?hd (xs := lc) (inner := [.string (⟨#[106, 111, 98]⟩ : ByteArray), .string (⟨#[97, 112, 105]⟩ : ByteArray), .string (⟨#[122, 111, 110, 101]⟩ : ByteArray), .string (⟨#[97, 34, 98]⟩ : ByteArray)]) (ok := fun _ => True) (okp := fun _ => True) ?hr ?hp (fun _ hk => hk) trivial (Below.refl _ _) (Nat.le_refl _) (by simp [lc]) ?_; (case hd => rfl); (case hg => rfl); (case hr => first | (go_simp; done) | (go_simp; rfl)); (case hp => exact (Reps.c2 (show Kd.M k58 _ _ _ (⟨(⟨#[106, 111, 98]⟩ : ByteArray), (⟨#[97, 112, 105]⟩ : ByteArray)⟩ : S58) [.string (⟨#[106, 111, 98]⟩ : ByteArray), .string (⟨#[97, 112, 105]⟩ : ByteArray)] from (k58_mkM _ _ _ _)) (Reps.c2 (show Kd.M k58 _ _ _ (⟨(⟨#[122, 111, 110, 101]⟩ : ByteArray), (⟨#[97, 34, 98]⟩ : ByteArray)⟩ : S58) [.string (⟨#[122, 111, 110, 101]⟩ : ByteArray), .string (⟨#[97, 34, 98]⟩ : ByteArray)] from (k58_mkM _ _ _ _)) (Reps.none _ _)))); intro v102 w1 ho hb hg_ hnew_; clear hg_ hnew_; have HO := Aside0.mk ho; have HB := Aside0.mk hb; clear hb ho; obtain ⟨A1, c1, rfl⟩ := Kd.R_slice HO.out) | (go_at_call 13; ((with_reducible refine (labels_Text.calls 50 A1 c1 lc tc 0 _ (Kd.R_reads' HO.out).2.2 (Kd.R_reads' HO.out).2.1 tc_eq).mono ?_); rintro e w2 ⟨rfl, hb⟩; replace HO := Aside0.mk (Kd.R_below HO.out hb); replace HB := Aside0.mk (below_then HB.out HB.out.size hb); clear hb)) | (go_at_call 15; ((with_reducible refine (labels_Parse.calls 50 tc lc 0 _ pc_eq).mono ?_); rintro e w3 ⟨v3, rfl, hp, hb⟩; have hsz := HB.out.size; replace HO := Aside0.mk (Kd.R_below HO.out hb); replace HB := Aside0.mk (below_then HB.out HB.out.size hb); have HP := Aside0.mk (Kd.R_lower hp hsz); clear hp hb hsz; obtain ⟨A3, c3, rfl⟩ := Kd.R_slice HP.out)) | (go_at_call 18; ((with_reducible refine (labels_ParseMatchers.calls _ mc 0 _ mc_eq2).mono ?_); rintro e w5 ⟨v5, rfl, hm, hb⟩; have hsz := HB.out.size; replace HO := Aside0.mk (Kd.R_below HO.out hb); replace HP := Aside0.mk (Kd.R_below HP.out hb); replace HB := Aside0.mk (below_then HB.out HB.out.size hb); have HM := Aside0.mk (Kd.R_lower hm hsz); clear hm hb hsz; obtain ⟨A5, c5, rfl⟩ := Kd.R_slice HM.out)) | (go_at_call 15; ((with_reducible refine (labels_Parse.calls 50 _ [] 10 _ bc_eq).mono ?_); rintro e w4 ⟨v4, rfl, hp, hb⟩; replace HO := Aside0.mk (Kd.R_below HO.out hb); replace HP := Aside0.mk (Kd.R_below HP.out hb); replace HM := Aside0.mk (Kd.R_below HM.out hb); replace HB := Aside0.mk (below_then HB.out HB.out.size hb); clear hp hb)) | (go_at_call 20; ((with_reducible refine (labels_Get.calls 50 A1 c1 lc _ _ true _ (Kd.R_reads' HO.out).2.2 (Kd.R_reads' HO.out).2.1 gc_eq).mono ?_); rintro e w6 ⟨rfl, hb⟩; replace HO := Aside0.mk (Kd.R_below HO.out hb); replace HP := Aside0.mk (Kd.R_below HP.out hb); replace HM := Aside0.mk (Kd.R_below HM.out hb); replace HB := Aside0.mk (below_then HB.out HB.out.size hb); clear hb)))
  have hc1 : 2 ≤ c1 := (Kd.R_reads' HO.out).2.1
  obtain ⟨a1, e1, hx0, hx1⟩ := at_T58 (Kd.R_reads' HO.out).2.2 1 (by decide) (by decide)
  obtain ⟨a3, e3, hy0, hy1⟩ := at_T58 (Kd.R_reads' HP.out).2.2 1 (by decide) (by decide)
  subst e1
  subst e3
  have HX := Aside0.mk (And.intro hx0 hx1)
  clear hx0 hx1 hy0 hy1
  have hc1i : (1 : Int) ≤ (c1 : Int) := by omega
  have hc1d : decide ((1 : Int) ≤ (c1 : Int)) = true := decide_eq_true hc1i
  rw [show lc.length = 2 from rfl]
  replace HO := Aside0.mk (Kd.R_drew HO.out)
  replace HP := Aside0.mk (Kd.R_drew HP.out)
  replace HM := Aside0.mk (Kd.R_drew HM.out)
  replace HB := Aside0.mk (below_drew1 HB.out)
  go_region_held3 (fun W => W.cell? ⟨a1.block, a1.off + 2, none⟩ = some (.string (⟨#[122, 111, 110, 101]⟩ : ByteArray)) ∧ W.cell? ⟨a1.block, a1.off + 2 + 1, none⟩ = some (.string (⟨#[97, 34, 98]⟩ : ByteArray)) ∧ W.cell? ⟨a3.block, a3.off + 2, none⟩ = some (.string (⟨#[122, 111, 110, 101]⟩ : ByteArray)) ∧ W.cell? ⟨a3.block, a3.off + 2 + 1, none⟩ = some (.string (⟨#[97, 34, 98]⟩ : ByteArray))) (first | exact cells4 (Kd.R_reads' HO.out).2.2 (Kd.R_reads' HP.out).2.2 | exact cells4 (Kd.R_reads' (Kd.R_alloc HO.out _)).2.2 (Kd.R_reads' (Kd.R_alloc HP.out _)).2.2) (first | (go_at_call 22; ((refine (labels_Match.calls (some a1) c1 lc A5 c5 mc true _ (Kd.R_reads' HO.out).2.2 (Kd.R_reads' HO.out).2.1 (Kd.R_reads' HM.out).2.2 (Kd.R_reads' HM.out).2.1 hc_eq).mono ?_); rintro e w6 ⟨rfl, hb⟩; replace HO := Aside0.mk (Kd.R_below HO.out hb); replace HP := Aside0.mk (Kd.R_below HP.out hb); replace HM := Aside0.mk (Kd.R_below HM.out hb); replace HB := Aside0.mk (below_then HB.out HB.out.size hb); clear hb)) | (go_at_call 24; ((refine (labels_Compare.calls (some a1) c1 lc (some a1) c1 [⟨(⟨#[106, 111, 98]⟩ : ByteArray), (⟨#[97, 112, 105]⟩ : ByteArray)⟩] 1 _ (Kd.R_reads' HO.out).2.2 (Kd.R_reads' HO.out).2.1 (C_head (Kd.R_reads' HO.out).2.2) (by simp; omega) cc_eq).mono ?_); rintro e w7 ⟨rfl, hb⟩; replace HO := Aside0.mk (Kd.R_below HO.out hb); replace HP := Aside0.mk (Kd.R_below HP.out hb); replace HM := Aside0.mk (Kd.R_below HM.out hb); replace HB := Aside0.mk (below_then HB.out HB.out.size hb); clear hb)) | (go_at_call 14; ((refine (labels_Check.calls 50 _ 1 [⟨⟨#[]⟩, ⟨#[]⟩⟩] 10 _ (C_fresh (blk_new _ _)) (by simp) kc_eq).mono ?_); rintro e w8 ⟨rfl, hb⟩; replace HO := Aside0.mk (Kd.R_below (Kd.R_alloc HO.out _) hb); replace HP := Aside0.mk (Kd.R_below (Kd.R_alloc HP.out _) hb); replace HB := Aside0.mk (below_then (below_alloc HB.out _) (below_alloc HB.out _).size hb); clear hb)))
  all_goals go_wp2
  all_goals go_ret
  all_goals exact ⟨rfl, HB.out⟩
def tidepolelaw30_awake.f : Option Bool := some true
theorem tidepolelaw30_awake.calls (r : Bool) (w : World) (h : tidepolelaw30_awake.f = some r) : Calls Try.prog 11 #[] w fun e w' => e = .returned (.bool r) ∧ Below w.heap.size w w' := by
  injection h with h
  subst h
  exact awake_c w
end Go.Proofs.Ytbfiacnmielajaa.P
namespace Go.Proofs.Ytbfiacnmielajaa.P
open Go.RowKit Go.Proofs.YtbfiacnmielajaaW.PrintWords Go.Proofs.YtbfiacnmielajaaW.PrintLast Go.Proofs.YtbfiacnmielajaaW.PrintMore
attribute [local go_sem] max2_int min2_int max_two min_two max_three min_three max_four min_four
set_option linter.unusedVariables false
set_option linter.unusedSimpArgs false
theorem eqA59 (d : Nat) (w : World) (x0 y0 : Int) (x1 y1 : ByteArray) (x2 y2 : ByteArray) :
  (Op.equalIn (d + 2) 59 (.agg #[.int .i64 x0, .string x1, .string x2]) (.agg #[.int .i64 y0, .string y1, .string y2])).run Try.prog w = .ok (x0 == y0 && (x1.toList == y1.toList && (x2.toList == y2.toList))) w := by
 refine eqA_of Try.underlying59 (by kernel_rfl) ?_
 refine eqf_cons (by rfl) (by go_simp; rfl) (by go_simp; rfl) (by go_simp) ?_
 refine eqf_cons (by rfl) (by go_simp; rfl) (by go_simp; rfl) (by go_simp) ?_
 exact eqf_last (by rfl) (by go_simp; rfl) (by go_simp; rfl) (by go_simp)
end Go.Proofs.Ytbfiacnmielajaa.P
namespace Go.Proofs.Ytbfiacnmielajaa.P
open Go.RowKit Go.Proofs.YtbfiacnmielajaaW.PrintWords Go.Proofs.YtbfiacnmielajaaW.PrintLast Go.Proofs.YtbfiacnmielajaaW.PrintMore
attribute [local go_sem] max2_int min2_int max_two min_two max_three min_three max_four min_four
set_option linter.unusedVariables false
set_option linter.unusedSimpArgs false
attribute [local go_sem high] leq_str gtr_str
attribute [local go_sem high] eqA59
def tidepolelaw30_ref.l0 : Nat → List (S59) → List (S58) → Int → Int → Option ((List (S59)))
 | 0, _, _, _, _ => none
 | k + 1, x3, x6, x7, x8 => if x8 < x7 then (if 0 ≤ x8 then (if x8 < (x6.length : Int) then (if x3.length < 3518437208883 then (tidepolelaw30_ref.l0 k (x3 ++ [(⟨0, (rd_T58 x6 x8).f0, (rd_T58 x6 x8).f1⟩ : S59)]) x6 x7 (wrap64 (x8 + 1))) else (none)) else (none)) else (none)) else (some x3)
def tidepolelaw30_ref.f (k : Nat) (l0 : List (S58)) : Option ((List (S59))) := tidepolelaw30_ref.l0 k ([] : List (S59)) l0 (l0.length : Int) 0
set_option maxHeartbeats 8000000 in
set_option maxRecDepth 100000 in
theorem tidepolelaw30_ref.calls (k : Nat) (A0 : Option Addr) (c0 : Nat) (l0 : List (S58)) (r : List (S59)) (w : World) (hr0 : Kd.C k58 w A0 l0.length l0) (hc0 : l0.length ≤ c0) (h : tidepolelaw30_ref.f k l0 = some r) :
  Calls Try.prog 9 #[.slice A0 l0.length c0] w fun e w' => ∃ v0_ : Value, e = .returned (v0_) ∧ Kd.R k59 59 w' w.heap.size (fun _ => True) v0_ r ∧ Below w.heap.size w w' := by
 have hu58 := Try.underlying58
 have hu59 := Try.underlying59
 have HR0 := Aside0.mk hr0
 have HC0 := Aside0.mk hc0
 clear hr0 hc0
 have HB := Aside0.mk (Below.refl w.heap.size w)
 have H : (tidepolelaw30_ref.l0 k ([] : List (S59)) l0 (l0.length : Int) 0) = some r := h
 clear h
 have H' := Aside0.mk H
 clear H
 go_enter Try.func9, Try.ntmps9
 go_wp2
 go_loopg [3, 8] k (fun kq v3 v8 w' => ∃ (x3_1 : List (S59)) (x8_1 : Int), v8 = .int .i64 x8_1 ∧ Aside0 (tidepolelaw30_ref.l0 kq x3_1 l0 (l0.length : Int) x8_1 = some r) ∧ Aside0 (kq ≤ k) ∧ Aside0 (Kd.R k59 59 w' w.heap.size (fun _ => True) v3 x3_1) ∧ Aside0 (Below w.heap.size w w'))
 case atStart => exact ⟨(([] : List (S59))), (0), (by first | rfl | (simp; done) | (simp [*]; done)), H', ⟨Nat.le_refl _⟩, ⟨by first | exact Kd.R_nil _ _ _ _ _ | exact Kd.N_nil _ _ _ _ _ | exact Kd.V_nil _ _ _ _ _ | exact Kd.Q_nil _ _ _ _ _ | exact Kd.S_nil _ _ _ _ _⟩, ⟨by repeat (first | (with_reducible first | exact HB.out | apply below_alloc | apply pw_below_drewN | apply below_drew1) | exact HB.out)⟩⟩
 case round =>
  clear H'
  obtain ⟨x3_1, x8_1, rfl, HA, HK1, HO_3, HB⟩ := hrel
  cases gk with
  | zero => exact absurd HA.out (by simp [tidepolelaw30_ref.l0])
  | succ k1 =>
   have H := HA.out
   clear HA
   simp only [tidepolelaw30_ref.l0] at H
   by_cases c2 : x8_1 < (l0.length : Int)
   ·rw [if_pos c2] at H
    have c2b0 : decide (x8_1 < (l0.length : Int)) = true := decide_eq_true c2
    clear c2
    by_cases c3 : 0 ≤ x8_1
    ·rw [if_pos c3] at H
     have c3b0 : decide (0 ≤ x8_1) = true := decide_eq_true c3
     clear c3
     by_cases c4 : x8_1 < (l0.length : Int)
     ·rw [if_pos c4] at H
      have c4b0 : decide (x8_1 < (l0.length : Int)) = true := decide_eq_true c4
      clear c4
      by_cases c5 : x3_1.length < 3518437208883
      ·rw [if_pos c5] at H
       have LMc5 := Aside0.mk c5
       clear c5
       obtain ⟨y103, hy103⟩ : ∃ y_ : List (S59), y_ = (x3_1 ++ [(⟨0, (rd_T58 l0 x8_1).f0, (rd_T58 l0 x8_1).f1⟩ : S59)]) := ⟨_, rfl⟩
       replace H : (tidepolelaw30_ref.l0 k1 y103 l0 (l0.length : Int) (wrap64 (x8_1 + 1))) = some r := by first | (rw [hy103]; with_reducible exact H) | (have H2_ := (Option.bind_some _ _).symm.trans H; rw [hy103]; with_reducible exact H2_) | (have H2_ := (Option.bind_some _ _).symm.trans H; with_reducible exact H2_) | with_reducible exact H | (rw [hy103]; exact H) | exact H
       have Ny103 := Aside0.mk hy103
       clear hy103
       have H' := Aside0.mk H
       clear H
       have p101 : 0 ≤ (x8_1 : Int) := of_decide_eq_true (by first | (with_reducible assumption) | assumption)
       have q101 : x8_1 < (l0.length : Int) := of_decide_eq_true (by first | (with_reducible assumption) | assumption)
       obtain ⟨ad101, e101, hx101_0, hx101_1⟩ := at_T58 HR0.out x8_1 p101 q101
       cases e101
       replace hx101_0 := (HB.out.cell (World.block_lt_of_cell? w _ hx101_0)).trans hx101_0
       replace hx101_1 := (HB.out.cell (World.block_lt_of_cell? w _ hx101_1)).trans hx101_1
       replace p101 := eq_true p101
       replace q101 := eq_true q101
       go_wp2_with (first | ((with_reducible refine gate_dst (N := 5) rfl ?_); refine box_event ?hg (N := 5) ?hd (cs := #[.string (⟨#[]⟩ : ByteArray), .string (⟨#[]⟩ : ByteArray)]) (t := 58) ?hr ?_; (case hd => rfl); (case hg => rfl); (case hr => first | (go_simp; done) | (go_simp; rfl)); intro gb102 hg w6 hbox hb; have n0_ := Aside0.mk (Kd.R_below (by (with_reducible repeat (first | apply Kd.R_alloc | apply Kd.R_drewN | apply Kd.R_drew)); exact HO_3.out) hb); have n1_ := Aside0.mk (below_step (by repeat (first | (with_reducible first | exact HB.out | apply below_alloc | apply pw_below_drewN | apply below_drew1) | exact HB.out)) hb); have n2_ := Aside0.mk (hbox); have n3_ := Aside0.mk ((by rw [hg]; exact (below_size (by repeat (first | (with_reducible first | exact HB.out | apply below_alloc | apply pw_below_drewN | apply below_drew1) | exact HB.out))) : w.heap.size ≤ gb102)); have n4_ := Aside0.mk ((by rw [hg]; exact (below_size (by repeat (first | (with_reducible first | exact HB.out | apply below_alloc | apply pw_below_drewN | apply below_drew1) | exact HB.out))) : w.heap.size ≤ gb102)); clear HO_3; clear HB; have HO_3 := n0_; have HB := n1_; have BK102 := n2_; have GW102 := n3_; have GE102 := n4_; clear n0_ n1_ n2_ n3_ n4_; clear hb hbox hg; have hcz7_0 : w6.cell? ⟨gb102, 0, none⟩ = some (.string (⟨#[]⟩ : ByteArray)) := (blk_cell BK102.out 0).trans rfl; have hcz7_1 : w6.cell? ⟨gb102, 1, none⟩ = some (.string (⟨#[]⟩ : ByteArray)) := (blk_cell BK102.out 1).trans rfl; have hfz7_0 := blk_frozen BK102.out 0; have hfz7_1 := blk_frozen BK102.out 1) | ((with_reducible refine gate_builtin (b := .append) (xs := #[.tmp 12, .tmp 18]) rfl ?_); at_builtin; refine Kd.R_append k59 (w0 := w) w.heap.size rfl (.tmp 12) (.tmp 18) 23 59 (.agg #[(.int .i64 0), (.string ⟨#[]⟩), (.string ⟨#[]⟩)]) 40 rfl Try.underlying23 info59 rfl (by decide) (by omega) u3 x3_1 (⟨0, (rd_T58 l0 x8_1).f0, (rd_T58 l0 x8_1).f1⟩ : S59) [.int .i64 0, .string ((rd_T58 l0 x8_1).f0), .string ((rd_T58 l0 x8_1).f1)] (fun _ => True) (fun _ => False) rfl (by first | (go_simp; done) | (go_simp; rfl)) ?aP (fun _ hk => hk.elim) ?aF ?aO ?aB ?aS ?aL ?_; (case aP => exact k59_mkM _ _ _ (⟨0, (rd_T58 l0 x8_1).f0, (rd_T58 l0 x8_1).f1⟩ : S59)); (case aB => exact (by repeat (first | (with_reducible first | exact HB.out | apply below_alloc | apply pw_below_drewN | apply below_drew1 | refine below_set ?_ GE102.out) | exact HB.out))); (case aF => exact (fun _ _ => trivial)); (case aO => exact (by (with_reducible repeat (first | apply Kd.R_alloc | apply Kd.R_drewN | apply Kd.R_drew)); exact Kd.R_mono (Kd.R_far (p := ⟨gb102, 1, none⟩) (Kd.R_far (p := ⟨gb102, 0, none⟩) (Kd.R_types HO_3.out BK102.out (by decide)) (fun _ hk => hk.2) (.string ((rd_T58 l0 x8_1).f0))) (fun _ hk => hk.2) (.string ((rd_T58 l0 x8_1).f1))) (fun _ hk => trivial))); (case aS => exact (below_size (by repeat (first | (with_reducible first | exact HB.out | apply below_alloc | apply pw_below_drewN | apply below_drew1 | refine below_set ?_ GE102.out) | exact HB.out)))); (case aL => have := LMc5.out; omega); intro v104 w8 ho hb hg hat; rw [← Ny103.out] at ho; have n0_ := Aside0.mk (blk_grown (g := gb102) (o := .cells #[.string ((rd_T58 l0 x8_1).f0), .string ((rd_T58 l0 x8_1).f1)] 58 (0, 0)) (by (with_reducible repeat (first | refine blk_drewN ?_ _ | refine blk_drew ?_ | refine blk_alloc ?_ _)); refine blk_put (cs := #[.string ((rd_T58 l0 x8_1).f0), .string (⟨#[]⟩ : ByteArray)]) ?_ 1 _ rfl; (with_reducible repeat (first | refine blk_drewN ?_ _ | refine blk_drew ?_ | refine blk_alloc ?_ _)); refine blk_put (cs := #[.string (⟨#[]⟩ : ByteArray), .string (⟨#[]⟩ : ByteArray)]) ?_ 0 _ rfl; (with_reducible repeat (first | refine blk_drewN ?_ _ | refine blk_drew ?_ | refine blk_alloc ?_ _)); exact BK102.out) hg (Kd.R_ne HO_3.out BK102.out (by decide))); have n1_ := Aside0.mk (hb); have n2_ := Aside0.mk (ho); clear BK102; clear HB; clear HO_3; have BK102 := n0_; have HB := n1_; have HO105 := n2_; clear n0_ n1_ n2_; clear ho hb hg hat))
       go_roundg k1
       case measure => have := HK1.out; omega
       case rel => exact ⟨(y103), (wrap64 (x8_1 + 1)), (by first | rfl | (simp; done) | (simp [*]; done)), H', ⟨by have := HK1.out; omega⟩, ⟨by (with_reducible repeat (first | apply Kd.R_alloc | apply Kd.R_drewN | apply Kd.R_drew)); exact HO105.out⟩, ⟨by repeat (first | (with_reducible first | exact HB.out | apply below_alloc | apply pw_below_drewN | apply below_drew1 | refine below_set ?_ GE102.out) | exact HB.out)⟩⟩
      ·rw [if_neg c5] at H
       exact absurd H (by simp)
     ·rw [if_neg c4] at H
      exact absurd H (by simp)
    ·rw [if_neg c3] at H
     exact absurd H (by simp)
   ·rw [if_neg c2] at H
    have c2b0 : decide (x8_1 < (l0.length : Int)) = false := decide_eq_false c2
    clear c2
    obtain rfl := Option.some.inj H
    go_wp2
    go_ret
    exact ⟨_, by first | rfl | (simp [errW_none, errW_some] <;> rfl) | (simp [*, errW_none, errW_some] <;> rfl), by (with_reducible repeat (first | apply Kd.R_alloc | apply Kd.R_drewN | apply Kd.R_drew)); exact HO_3.out, by repeat (first | (with_reducible first | exact HB.out | apply below_alloc | apply pw_below_drewN | apply below_drew1) | exact HB.out)⟩
def tidepolelaw30_small.l0 : Nat → List (S59) → List (S59) → Int → Int → Option (Bool)
 | 0, _, _, _, _ => none
 | k + 1, x0, x5, x6, x7 => if x7 < x6 then (if 0 ≤ x7 then (if x7 < (x5.length : Int) then (if (((rd_T59 x5 x7).f1).size : Int) > 100 then (some false) else (if (((rd_T59 x5 x7).f2).size : Int) > 300 then (some false) else (tidepolelaw30_small.l0 k x0 x5 x6 (wrap64 (x7 + 1))))) else (none)) else (none)) else (some (decide ((x0.length : Int) ≤ 30)))
def tidepolelaw30_small.f (k : Nat) (l0 : List (S59)) : Option (Bool) := tidepolelaw30_small.l0 k l0 l0 (l0.length : Int) 0
set_option maxHeartbeats 8000000 in
set_option maxRecDepth 100000 in
theorem tidepolelaw30_small.calls (k : Nat) (A0 : Option Addr) (c0 : Nat) (l0 : List (S59)) (r : Bool) (w : World) (hr0 : Kd.C k59 w A0 l0.length l0) (hc0 : l0.length ≤ c0) (h : tidepolelaw30_small.f k l0 = some r) :
  Calls Try.prog 10 #[.slice A0 l0.length c0] w fun e w' => e = .returned (.bool r) ∧ Below w.heap.size w w' := by
 have hu59 := Try.underlying59
 have HR0 := Aside0.mk hr0
 have HC0 := Aside0.mk hc0
 clear hr0 hc0
 have HB := Aside0.mk (Below.refl w.heap.size w)
 have H : (tidepolelaw30_small.l0 k l0 l0 (l0.length : Int) 0) = some r := h
 clear h
 have H' := Aside0.mk H
 clear H
 go_enter Try.func10, Try.ntmps10
 go_wp2
 go_loopg [7] k (fun kq v7 w' => ∃ (x7_1 : Int), v7 = .int .i64 x7_1 ∧ Aside0 (tidepolelaw30_small.l0 kq l0 l0 (l0.length : Int) x7_1 = some r) ∧ Aside0 (kq ≤ k) ∧ Aside0 (Below w.heap.size w w'))
 case atStart => exact ⟨(0), (by first | rfl | (simp; done) | (simp [*]; done)), H', ⟨Nat.le_refl _⟩, ⟨by repeat (first | (with_reducible first | exact HB.out | apply below_alloc | apply pw_below_drewN | apply below_drew1) | exact HB.out)⟩⟩
 case round =>
  clear H'
  try clear c1
  obtain ⟨x7_1, rfl, HA, HK1, HB⟩ := hrel
  cases gk with
  | zero => exact absurd HA.out (by simp [tidepolelaw30_small.l0])
  | succ k1 =>
   have H := HA.out
   clear HA
   simp only [tidepolelaw30_small.l0] at H
   by_cases c2 : x7_1 < (l0.length : Int)
   ·rw [if_pos c2] at H
    have c2b0 : decide (x7_1 < (l0.length : Int)) = true := decide_eq_true c2
    clear c2
    by_cases c3 : 0 ≤ x7_1
    ·rw [if_pos c3] at H
     have c3b0 : decide (0 ≤ x7_1) = true := decide_eq_true c3
     clear c3
     by_cases c4 : x7_1 < (l0.length : Int)
     ·rw [if_pos c4] at H
      have c4b0 : decide (x7_1 < (l0.length : Int)) = true := decide_eq_true c4
      clear c4
      by_cases c5 : (((rd_T59 l0 x7_1).f1).size : Int) > 100
      ·rw [if_pos c5] at H
       have c5b0 : decide (100 < (((rd_T59 l0 x7_1).f1).size : Int)) = true := decide_eq_true c5
       have c5b1 : decide (100 < ((rd_T59 l0 x7_1).f1).size) = true := decide_eq_true (by omega)
       clear c5
       obtain rfl := Option.some.inj H
       have p101 : 0 ≤ (x7_1 : Int) := of_decide_eq_true (by first | (with_reducible assumption) | assumption)
       have q101 : x7_1 < (l0.length : Int) := of_decide_eq_true (by first | (with_reducible assumption) | assumption)
       obtain ⟨ad101, e101, hx101_0, hx101_1, hx101_2⟩ := at_T59 HR0.out x7_1 p101 q101
       cases e101
       replace hx101_0 := (HB.out.cell (World.block_lt_of_cell? w _ hx101_0)).trans hx101_0
       replace hx101_1 := (HB.out.cell (World.block_lt_of_cell? w _ hx101_1)).trans hx101_1
       replace hx101_2 := (HB.out.cell (World.block_lt_of_cell? w _ hx101_2)).trans hx101_2
       replace p101 := eq_true p101
       replace q101 := eq_true q101
       go_wp2_with (first | ((with_reducible refine gate_dst (N := 4) rfl ?_); (try (refine gate_guard (by rfl) ?_; dsimp only)); refine box_event ?hg (N := 4) ?hd (cs := #[.int .i64 0, .string (⟨#[]⟩ : ByteArray), .string (⟨#[]⟩ : ByteArray)]) (t := 59) ?hr ?_; (case hd => rfl); (case hg => rfl); (case hr => first | (go_simp; done) | (go_simp; rfl)); intro gb102 hg w6 hbox hb; have n0_ := Aside0.mk (below_step (by repeat (first | (with_reducible first | exact HB.out | apply below_alloc | apply pw_below_drewN | apply below_drew1) | exact HB.out)) hb); have n1_ := Aside0.mk (hbox); have n2_ := Aside0.mk ((by rw [hg]; exact (below_size (by repeat (first | (with_reducible first | exact HB.out | apply below_alloc | apply pw_below_drewN | apply below_drew1) | exact HB.out))) : w.heap.size ≤ gb102)); have n3_ := Aside0.mk ((by rw [hg]; exact (below_size (by repeat (first | (with_reducible first | exact HB.out | apply below_alloc | apply pw_below_drewN | apply below_drew1) | exact HB.out))) : w.heap.size ≤ gb102)); clear HB; have HB := n0_; have BK102 := n1_; have GW102 := n2_; have GE102 := n3_; clear n0_ n1_ n2_ n3_; clear hb hbox hg; have hcz7_0 : w6.cell? ⟨gb102, 0, none⟩ = some (.int .i64 0) := (blk_cell BK102.out 0).trans rfl; have hcz7_1 : w6.cell? ⟨gb102, 1, none⟩ = some (.string (⟨#[]⟩ : ByteArray)) := (blk_cell BK102.out 1).trans rfl; have hcz7_2 : w6.cell? ⟨gb102, 2, none⟩ = some (.string (⟨#[]⟩ : ByteArray)) := (blk_cell BK102.out 2).trans rfl; have hfz7_0 := blk_frozen BK102.out 0; have hfz7_1 := blk_frozen BK102.out 1; have hfz7_2 := blk_frozen BK102.out 2))
       go_ret
       exact ⟨by first | rfl | (simp [errW_none, errW_some] <;> rfl) | (simp [*, errW_none, errW_some] <;> rfl), by repeat (first | (with_reducible first | exact HB.out | apply below_alloc | apply pw_below_drewN | apply below_drew1 | refine below_set ?_ GE102.out) | exact HB.out)⟩
      ·rw [if_neg c5] at H
       have c5b0 : decide (100 < (((rd_T59 l0 x7_1).f1).size : Int)) = false := decide_eq_false c5
       have c5b1 : decide (100 < ((rd_T59 l0 x7_1).f1).size) = false := decide_eq_false (by omega)
       clear c5
       by_cases c8 : (((rd_T59 l0 x7_1).f2).size : Int) > 300
       ·rw [if_pos c8] at H
        have c8b0 : decide (300 < (((rd_T59 l0 x7_1).f2).size : Int)) = true := decide_eq_true c8
        have c8b1 : decide (300 < ((rd_T59 l0 x7_1).f2).size) = true := decide_eq_true (by omega)
        clear c8
        obtain rfl := Option.some.inj H
        have p101 : 0 ≤ (x7_1 : Int) := of_decide_eq_true (by first | (with_reducible assumption) | assumption)
        have q101 : x7_1 < (l0.length : Int) := of_decide_eq_true (by first | (with_reducible assumption) | assumption)
        obtain ⟨ad101, e101, hx101_0, hx101_1, hx101_2⟩ := at_T59 HR0.out x7_1 p101 q101
        cases e101
        replace hx101_0 := (HB.out.cell (World.block_lt_of_cell? w _ hx101_0)).trans hx101_0
        replace hx101_1 := (HB.out.cell (World.block_lt_of_cell? w _ hx101_1)).trans hx101_1
        replace hx101_2 := (HB.out.cell (World.block_lt_of_cell? w _ hx101_2)).trans hx101_2
        replace p101 := eq_true p101
        replace q101 := eq_true q101
        go_wp2_with (first | ((with_reducible refine gate_dst (N := 4) rfl ?_); (try (refine gate_guard (by rfl) ?_; dsimp only)); refine box_event ?hg (N := 4) ?hd (cs := #[.int .i64 0, .string (⟨#[]⟩ : ByteArray), .string (⟨#[]⟩ : ByteArray)]) (t := 59) ?hr ?_; (case hd => rfl); (case hg => rfl); (case hr => first | (go_simp; done) | (go_simp; rfl)); intro gb102 hg w9 hbox hb; have n0_ := Aside0.mk (below_step (by repeat (first | (with_reducible first | exact HB.out | apply below_alloc | apply pw_below_drewN | apply below_drew1) | exact HB.out)) hb); have n1_ := Aside0.mk (hbox); have n2_ := Aside0.mk ((by rw [hg]; exact (below_size (by repeat (first | (with_reducible first | exact HB.out | apply below_alloc | apply pw_below_drewN | apply below_drew1) | exact HB.out))) : w.heap.size ≤ gb102)); have n3_ := Aside0.mk ((by rw [hg]; exact (below_size (by repeat (first | (with_reducible first | exact HB.out | apply below_alloc | apply pw_below_drewN | apply below_drew1) | exact HB.out))) : w.heap.size ≤ gb102)); clear HB; have HB := n0_; have BK102 := n1_; have GW102 := n2_; have GE102 := n3_; clear n0_ n1_ n2_ n3_; clear hb hbox hg; have hcz10_0 : w9.cell? ⟨gb102, 0, none⟩ = some (.int .i64 0) := (blk_cell BK102.out 0).trans rfl; have hcz10_1 : w9.cell? ⟨gb102, 1, none⟩ = some (.string (⟨#[]⟩ : ByteArray)) := (blk_cell BK102.out 1).trans rfl; have hcz10_2 : w9.cell? ⟨gb102, 2, none⟩ = some (.string (⟨#[]⟩ : ByteArray)) := (blk_cell BK102.out 2).trans rfl; have hfz10_0 := blk_frozen BK102.out 0; have hfz10_1 := blk_frozen BK102.out 1; have hfz10_2 := blk_frozen BK102.out 2))
        go_ret
        exact ⟨by first | rfl | (simp [errW_none, errW_some] <;> rfl) | (simp [*, errW_none, errW_some] <;> rfl), by repeat (first | (with_reducible first | exact HB.out | apply below_alloc | apply pw_below_drewN | apply below_drew1 | refine below_set ?_ GE102.out) | exact HB.out)⟩
       ·rw [if_neg c8] at H
        have c8b0 : decide (300 < (((rd_T59 l0 x7_1).f2).size : Int)) = false := decide_eq_false c8
        have c8b1 : decide (300 < ((rd_T59 l0 x7_1).f2).size) = false := decide_eq_false (by omega)
        clear c8
        have H' := Aside0.mk H
        clear H
        have p101 : 0 ≤ (x7_1 : Int) := of_decide_eq_true (by first | (with_reducible assumption) | assumption)
        have q101 : x7_1 < (l0.length : Int) := of_decide_eq_true (by first | (with_reducible assumption) | assumption)
        obtain ⟨ad101, e101, hx101_0, hx101_1, hx101_2⟩ := at_T59 HR0.out x7_1 p101 q101
        cases e101
        replace hx101_0 := (HB.out.cell (World.block_lt_of_cell? w _ hx101_0)).trans hx101_0
        replace hx101_1 := (HB.out.cell (World.block_lt_of_cell? w _ hx101_1)).trans hx101_1
        replace hx101_2 := (HB.out.cell (World.block_lt_of_cell? w _ hx101_2)).trans hx101_2
        replace p101 := eq_true p101
        replace q101 := eq_true q101
        go_wp2_with (first | ((with_reducible refine gate_dst (N := 4) rfl ?_); (try (refine gate_guard (by rfl) ?_; dsimp only)); refine box_event ?hg (N := 4) ?hd (cs := #[.int .i64 0, .string (⟨#[]⟩ : ByteArray), .string (⟨#[]⟩ : ByteArray)]) (t := 59) ?hr ?_; (case hd => rfl); (case hg => rfl); (case hr => first | (go_simp; done) | (go_simp; rfl)); intro gb102 hg w11 hbox hb; have n0_ := Aside0.mk (below_step (by repeat (first | (with_reducible first | exact HB.out | apply below_alloc | apply pw_below_drewN | apply below_drew1) | exact HB.out)) hb); have n1_ := Aside0.mk (hbox); have n2_ := Aside0.mk ((by rw [hg]; exact (below_size (by repeat (first | (with_reducible first | exact HB.out | apply below_alloc | apply pw_below_drewN | apply below_drew1) | exact HB.out))) : w.heap.size ≤ gb102)); have n3_ := Aside0.mk ((by rw [hg]; exact (below_size (by repeat (first | (with_reducible first | exact HB.out | apply below_alloc | apply pw_below_drewN | apply below_drew1) | exact HB.out))) : w.heap.size ≤ gb102)); clear HB; have HB := n0_; have BK102 := n1_; have GW102 := n2_; have GE102 := n3_; clear n0_ n1_ n2_ n3_; clear hb hbox hg; have hcz12_0 : w11.cell? ⟨gb102, 0, none⟩ = some (.int .i64 0) := (blk_cell BK102.out 0).trans rfl; have hcz12_1 : w11.cell? ⟨gb102, 1, none⟩ = some (.string (⟨#[]⟩ : ByteArray)) := (blk_cell BK102.out 1).trans rfl; have hcz12_2 : w11.cell? ⟨gb102, 2, none⟩ = some (.string (⟨#[]⟩ : ByteArray)) := (blk_cell BK102.out 2).trans rfl; have hfz12_0 := blk_frozen BK102.out 0; have hfz12_1 := blk_frozen BK102.out 1; have hfz12_2 := blk_frozen BK102.out 2))
        go_roundg k1
        case measure => have := HK1.out; omega
        case rel => exact ⟨(wrap64 (x7_1 + 1)), (by first | rfl | (simp; done) | (simp [*]; done)), H', ⟨by have := HK1.out; omega⟩, ⟨by repeat (first | (with_reducible first | exact HB.out | apply below_alloc | apply pw_below_drewN | apply below_drew1 | refine below_set ?_ GE102.out) | exact HB.out)⟩⟩
     ·rw [if_neg c4] at H
      exact absurd H (by simp)
    ·rw [if_neg c3] at H
     exact absurd H (by simp)
   ·rw [if_neg c2] at H
    have c2b0 : decide (x7_1 < (l0.length : Int)) = false := decide_eq_false c2
    clear c2
    obtain rfl := Option.some.inj H
    go_wp2
    go_ret
    exact ⟨by first | rfl | (simp [errW_none, errW_some] <;> rfl) | (simp [*, errW_none, errW_some] <;> rfl), by repeat (first | (with_reducible first | exact HB.out | apply below_alloc | apply pw_below_drewN | apply below_drew1) | exact HB.out)⟩
def tidepolelaw30_same.l0 : Nat → List (S59) → List (S59) → Int → Int → Option (Bool)
 | 0, _, _, _, _ => none
 | k + 1, x0, x1, x12, x13 => if x13 < x12 then (if 0 ≤ x13 then (if x13 < (x0.length : Int) then (if x13 < (x1.length : Int) then (if (!(((rd_T59 x0 x13).f0) == ((rd_T59 x1 x13).f0)) || (!((((rd_T59 x0 x13).f1).toList) == (((rd_T59 x1 x13).f1).toList)) || (!((((rd_T59 x0 x13).f2).toList) == (((rd_T59 x1 x13).f2).toList))))) = true then (some false) else (tidepolelaw30_same.l0 k x0 x1 x12 (wrap64 (x13 + 1)))) else (none)) else (none)) else (none)) else (some true)
def tidepolelaw30_same.f (k : Nat) (l0 : List (S59)) (l1 : List (S59)) : Option (Bool) := if (l0.length : Int) = (l1.length : Int) then (tidepolelaw30_same.l0 k l0 l1 (l0.length : Int) 0) else (some false)
set_option maxHeartbeats 8000000 in
set_option maxRecDepth 100000 in
theorem tidepolelaw30_same.calls (k : Nat) (A0 : Option Addr) (c0 : Nat) (l0 : List (S59)) (A1 : Option Addr) (c1 : Nat) (l1 : List (S59)) (r : Bool) (w : World) (hr0 : Kd.C k59 w A0 l0.length l0) (hc0 : l0.length ≤ c0) (hr1 : Kd.C k59 w A1 l1.length l1) (hc1 : l1.length ≤ c1) (h : tidepolelaw30_same.f k l0 l1 = some r) :
  Calls Try.prog 17 #[.slice A0 l0.length c0, .slice A1 l1.length c1] w fun e w' => e = .returned (.bool r) ∧ Drawn0 w w' := by
 have hu59 := Try.underlying59
 have HR0 := Aside0.mk hr0
 have HC0 := Aside0.mk hc0
 clear hr0 hc0
 have HR1 := Aside0.mk hr1
 have HC1 := Aside0.mk hc1
 clear hr1 hc1
 have H : (if (l0.length : Int) = (l1.length : Int) then (tidepolelaw30_same.l0 k l0 l1 (l0.length : Int) 0) else (some false)) = some r := h
 clear h
 by_cases c3 : (l0.length : Int) = (l1.length : Int)
 ·rw [if_pos c3] at H
  have c3b0 : ((l0.length : Int) == (l1.length : Int)) = true := beq_iff_eq.mpr c3
  have c3b1 : ((l0.length : Int) != (l1.length : Int)) = false := bne_eq_false_iff_eq.mpr c3
  have c3b2 : (l0.length == l1.length) = true := by first | simpa using c3 | (simp at c3 ⊢; omega)
  clear c3
  have H' := Aside0.mk H
  clear H
  go_enter Try.func17, Try.ntmps17
  go_wp2
  repeat (go_quiet (fail); try go_wp2)
  go_loopg [13] k (fun kq v13 w' => ∃ (x13_1 : Int), v13 = .int .i64 x13_1 ∧ Aside0 (tidepolelaw30_same.l0 kq l0 l1 (l0.length : Int) x13_1 = some r) ∧ Aside0 (kq ≤ k) ∧ Drawn0 w w')
  case atStart => exact ⟨(0), (by first | rfl | (simp; done) | (simp [*]; done)), H', ⟨Nat.le_refl _⟩, by repeat (first | exact Drawn0.refl _ | apply Drawn0.step)⟩
  case round =>
   clear H'
   try clear c1
   try clear p2
   try clear c3
   try clear c3b0
   try clear c3b1
   try clear c3b2
   obtain ⟨x13_1, rfl, HA, HK1, ⟨m1, rfl⟩⟩ := hrel
   cases gk with
   | zero => exact absurd HA.out (by simp [tidepolelaw30_same.l0])
   | succ k1 =>
    have H := HA.out
    clear HA
    simp only [tidepolelaw30_same.l0] at H
    by_cases c4 : x13_1 < (l0.length : Int)
    ·rw [if_pos c4] at H
     have c4b0 : decide (x13_1 < (l0.length : Int)) = true := decide_eq_true c4
     clear c4
     by_cases c5 : 0 ≤ x13_1
     ·rw [if_pos c5] at H
      have c5b0 : decide (0 ≤ x13_1) = true := decide_eq_true c5
      clear c5
      by_cases c6 : x13_1 < (l0.length : Int)
      ·rw [if_pos c6] at H
       have c6b0 : decide (x13_1 < (l0.length : Int)) = true := decide_eq_true c6
       clear c6
       by_cases c7 : x13_1 < (l1.length : Int)
       ·rw [if_pos c7] at H
        have c7b0 : decide (x13_1 < (l1.length : Int)) = true := decide_eq_true c7
        clear c7
        by_cases c8 : (!(((rd_T59 l0 x13_1).f0) == ((rd_T59 l1 x13_1).f0)) || (!((((rd_T59 l0 x13_1).f1).toList) == (((rd_T59 l1 x13_1).f1).toList)) || (!((((rd_T59 l0 x13_1).f2).toList) == (((rd_T59 l1 x13_1).f2).toList))))) = true
        ·rw [if_pos c8] at H
         have c8b0 : (!(((rd_T59 l0 x13_1).f0) == ((rd_T59 l1 x13_1).f0)) || (!((((rd_T59 l0 x13_1).f1).toList) == (((rd_T59 l1 x13_1).f1).toList)) || (!((((rd_T59 l0 x13_1).f2).toList) == (((rd_T59 l1 x13_1).f2).toList))))) = true := c8
         clear c8
         obtain rfl := Option.some.inj H
         have p101 : 0 ≤ (x13_1 : Int) := of_decide_eq_true (by first | (with_reducible assumption) | assumption)
         have q101 : x13_1 < (l0.length : Int) := of_decide_eq_true (by first | (with_reducible assumption) | assumption)
         obtain ⟨ad101, e101, hx101_0, hx101_1, hx101_2⟩ := at_T59 HR0.out x13_1 p101 q101
         cases e101
         replace p101 := eq_true p101
         replace q101 := eq_true q101
         have p102 : 0 ≤ (x13_1 : Int) := of_decide_eq_true (by first | (with_reducible assumption) | assumption)
         have q102 : x13_1 < (l1.length : Int) := of_decide_eq_true (by first | (with_reducible assumption) | assumption)
         obtain ⟨ad102, e102, hx102_0, hx102_1, hx102_2⟩ := at_T59 HR1.out x13_1 p102 q102
         cases e102
         replace p102 := eq_true p102
         replace q102 := eq_true q102
         go_wp2
         repeat (go_quiet (fail); try go_wp2)
         go_ret
         exact ⟨by first | rfl | (simp; done) | (simp [*]; done), by repeat (first | exact Drawn0.refl _ | apply Drawn0.step)⟩
        ·rw [if_neg c8] at H
         have c8b0 : (!(((rd_T59 l0 x13_1).f0) == ((rd_T59 l1 x13_1).f0)) || (!((((rd_T59 l0 x13_1).f1).toList) == (((rd_T59 l1 x13_1).f1).toList)) || (!((((rd_T59 l0 x13_1).f2).toList) == (((rd_T59 l1 x13_1).f2).toList))))) = false := by simpa using c8
         clear c8
         have H' := Aside0.mk H
         clear H
         have p101 : 0 ≤ (x13_1 : Int) := of_decide_eq_true (by first | (with_reducible assumption) | assumption)
         have q101 : x13_1 < (l0.length : Int) := of_decide_eq_true (by first | (with_reducible assumption) | assumption)
         obtain ⟨ad101, e101, hx101_0, hx101_1, hx101_2⟩ := at_T59 HR0.out x13_1 p101 q101
         cases e101
         replace p101 := eq_true p101
         replace q101 := eq_true q101
         have p102 : 0 ≤ (x13_1 : Int) := of_decide_eq_true (by first | (with_reducible assumption) | assumption)
         have q102 : x13_1 < (l1.length : Int) := of_decide_eq_true (by first | (with_reducible assumption) | assumption)
         obtain ⟨ad102, e102, hx102_0, hx102_1, hx102_2⟩ := at_T59 HR1.out x13_1 p102 q102
         cases e102
         replace p102 := eq_true p102
         replace q102 := eq_true q102
         go_wp2
         repeat (go_quiet (fail); try go_wp2)
         go_roundg k1
         case measure => have := HK1.out; omega
         case rel => exact ⟨(wrap64 (x13_1 + 1)), (by first | rfl | (simp; done) | (simp [*]; done)), H', ⟨by have := HK1.out; omega⟩, by repeat (first | exact Drawn0.refl _ | apply Drawn0.step)⟩
       ·rw [if_neg c7] at H
        exact absurd H (by simp)
      ·rw [if_neg c6] at H
       exact absurd H (by simp)
     ·rw [if_neg c5] at H
      exact absurd H (by simp)
    ·rw [if_neg c4] at H
     have c4b0 : decide (x13_1 < (l0.length : Int)) = false := decide_eq_false c4
     clear c4
     obtain rfl := Option.some.inj H
     go_wp2
     repeat (go_quiet (fail); try go_wp2)
     go_ret
     exact ⟨by first | rfl | (simp; done) | (simp [*]; done), by repeat (first | exact Drawn0.refl _ | apply Drawn0.step)⟩
 ·rw [if_neg c3] at H
  have c3b0 : ((l0.length : Int) == (l1.length : Int)) = false := beq_eq_false_iff_ne.mpr c3
  have c3b1 : ((l0.length : Int) != (l1.length : Int)) = true := bne_iff_ne.mpr c3
  have c3b2 : (l0.length == l1.length) = false := by first | simpa using c3 | (simp at c3 ⊢; omega)
  obtain rfl := Option.some.inj H
  go_enter Try.func17, Try.ntmps17
  go_wp2
  repeat (go_quiet (fail); try go_wp2)
  go_ret
  exact ⟨by first | rfl | (simp; done) | (simp [*]; done), by repeat (first | exact Drawn0.refl _ | apply Drawn0.step)⟩
end Go.Proofs.Ytbfiacnmielajaa.P
namespace Go.Proofs.Ytbfiacnmielajaa.P
open Go.RowKit Go.Proofs.YtbfiacnmielajaaW.PrintWords Go.Proofs.YtbfiacnmielajaaW.PrintLast Go.Proofs.YtbfiacnmielajaaW.PrintMore
attribute [local go_sem] max2_int min2_int max_two min_two max_three min_three max_four min_four
set_option linter.unusedVariables false
set_option linter.unusedSimpArgs false
attribute [local go_sem high] leq_str gtr_str
mutual
def tidepoleref30_Compare.l0 : Nat → List (S59) → List (S59) → Int → Option (Int)
 | 0, _, _, _ => none
 | k + 1, x0, x1, x5 => if x5 < (x0.length : Int) then (tidepoleref30_Compare.j1 k x0 x1 x5 (decide (x5 < (x1.length : Int)))) else (tidepoleref30_Compare.j1 k x0 x1 x5 false)
def tidepoleref30_Compare.j1 : Nat → List (S59) → List (S59) → Int → Bool → Option (Int)
 | 0, _, _, _, _ => none
 | k + 1, x0, x1, x5, x17 => if x17 = true then (if 0 ≤ x5 then (if x5 < (x0.length : Int) then (if x5 < (x1.length : Int) then (if (Op.bytesLess (((rd_T59 x0 x5).f1).toList) (((rd_T59 x1 x5).f1).toList)) = true then (tidepoleref30_Compare.j2 k x0 x1 x5 true ((rd_T59 x0 x5).f0) ((rd_T59 x0 x5).f1) ((rd_T59 x0 x5).f2) ((rd_T59 x1 x5).f0) ((rd_T59 x1 x5).f1) ((rd_T59 x1 x5).f2)) else (if ((rd_T59 x0 x5).f1).toList = ((rd_T59 x1 x5).f1).toList then (tidepoleref30_Compare.j2 k x0 x1 x5 (Op.bytesLess (((rd_T59 x0 x5).f2).toList) (((rd_T59 x1 x5).f2).toList)) ((rd_T59 x0 x5).f0) ((rd_T59 x0 x5).f1) ((rd_T59 x0 x5).f2) ((rd_T59 x1 x5).f0) ((rd_T59 x1 x5).f1) ((rd_T59 x1 x5).f2)) else (tidepoleref30_Compare.j2 k x0 x1 x5 false ((rd_T59 x0 x5).f0) ((rd_T59 x0 x5).f1) ((rd_T59 x0 x5).f2) ((rd_T59 x1 x5).f0) ((rd_T59 x1 x5).f1) ((rd_T59 x1 x5).f2)))) else (none)) else (none)) else (none)) else (if (x0.length : Int) < (x1.length : Int) then (some (-1)) else (if (x0.length : Int) > (x1.length : Int) then (some 1) else (some 0)))
def tidepoleref30_Compare.j2 : Nat → List (S59) → List (S59) → Int → Bool → Int → ByteArray → ByteArray → Int → ByteArray → ByteArray → Option (Int)
 | 0, _, _, _, _, _, _, _, _, _, _ => none
 | k + 1, x0, x1, x5, x46, x104000, x104001, x104002, x105000, x105001, x105002 => if x46 = true then (some (-1)) else (if x104001.toList = x105001.toList then (if x104002.toList = x105002.toList then (tidepoleref30_Compare.l0 k x0 x1 (wrap64 (x5 + 1))) else (some 1)) else (some 1))
end
def tidepoleref30_Compare.f (k : Nat) (l0 : List (S59)) (l1 : List (S59)) : Option (Int) := tidepoleref30_Compare.l0 k l0 l1 0
def tidepoleref30_Compare.T4 : Bool × List (List Nat × List Nat) := (true, [([], []), ([], []), ([0, 1], [0, 1]), ([2], [2]), ([], []), ([], []), ([4, 5], [4, 5]), ([6], [6]), ([], []), ([], []), ([8, 3, 0, 1, 2, 3, 8, 9], [3, 8]), ([9, 7, 10, 0, 1, 2, 3, 4, 5, 6, 7, 8, 9, 10], [7, 9])])
def tidepoleref30_Compare.B4 : List Nat := [0, 0, 3, 7, 0, 0, 48, 112, 0, 0, 783, 2047]
theorem tidepoleref30_Compare.tab4 : rtab .any (opsOf Try.f25 4) = tidepoleref30_Compare.T4 := by kernel_rfl
theorem tidepoleref30_Compare.bits4 : waitsOk tidepoleref30_Compare.T4.2 tidepoleref30_Compare.B4 = true := by kernel_rfl
set_option maxHeartbeats 8000000 in
set_option maxRecDepth 100000 in
theorem tidepoleref30_Compare.calls (k : Nat) (A0 : Option Addr) (c0 : Nat) (l0 : List (S59)) (A1 : Option Addr) (c1 : Nat) (l1 : List (S59)) (r : Int) (w : World) (hr0 : Kd.C k59 w A0 l0.length l0) (hc0 : l0.length ≤ c0) (hr1 : Kd.C k59 w A1 l1.length l1) (hc1 : l1.length ≤ c1) (h : tidepoleref30_Compare.f k l0 l1 = some r) :
  Calls Try.prog 25 #[.slice A0 l0.length c0, .slice A1 l1.length c1] w fun e w' => e = .returned (.int .i64 r) ∧ Below w.heap.size w w' := by
 have hu59 := Try.underlying59
 have HR0 := Aside0.mk hr0
 have HC0 := Aside0.mk hc0
 clear hr0 hc0
 have HR1 := Aside0.mk hr1
 have HC1 := Aside0.mk hc1
 clear hr1 hc1
 have HB := Aside0.mk (Below.refl w.heap.size w)
 have H : (tidepoleref30_Compare.l0 k l0 l1 0) = some r := h
 clear h
 have H' := Aside0.mk H
 clear H
 go_enter Try.func25, Try.ntmps25
 go_wp2
 go_loopg [5] k (fun kq v5 w' => ∃ (x5_1 : Int), v5 = .int .i64 x5_1 ∧ Aside0 (tidepoleref30_Compare.l0 kq l0 l1 x5_1 = some r) ∧ Aside0 (kq ≤ k) ∧ Aside0 (Below w.heap.size w w'))
 case atStart => exact ⟨(0), (by first | rfl | (simp; done) | (simp [*]; done)), H', ⟨Nat.le_refl _⟩, ⟨by repeat (first | (with_reducible first | exact HB.out | apply below_alloc | apply pw_below_drewN | apply below_drew1) | exact HB.out)⟩⟩
 case round =>
  clear H'
  try clear c1
  try clear c2
  try clear p2
  obtain ⟨x5_1, rfl, HA, HK1, HB⟩ := hrel
  cases gk with
  | zero => exact absurd HA.out (by simp [tidepoleref30_Compare.l0])
  | succ k1 =>
   have H := HA.out
   clear HA
   simp only [tidepoleref30_Compare.l0] at H
   have HC3 := Aside0.mk H
   clear H
   go_upto_region 2 with (fail)
   go_cut [17] (fun v17 wc => ∃ (kq : Nat) (x17_2 : Bool), v17 = .bool x17_2 ∧ Aside0 (tidepoleref30_Compare.j1 kq l0 l1 x5_1 x17_2 = some r) ∧ Aside0 (kq ≤ k1) ∧ Aside0 (Below w.heap.size w wc))
   case first =>
    have H := HC3.out
    clear HC3
    by_cases c4 : x5_1 < (l0.length : Int)
    ·rw [if_pos c4] at H
     have c4b0 : decide (x5_1 < (l0.length : Int)) = true := decide_eq_true c4
     clear c4
     (first | rw [c4b0] | (simp only [i64_w, i32_w]; rw [c4b0]) | skip)
     have H' := Aside0.mk H
     clear H
     go_wp2
     go_meet
     case rel => exact ⟨_, (decide (x5_1 < (l1.length : Int))), (by first | rfl | (simp; done) | (simp [*]; done)), H', ⟨by have := HK1.out; first | omega | exact Nat.le_refl _⟩, ⟨by repeat (first | (with_reducible first | exact HB.out | apply below_alloc | apply pw_below_drewN | apply below_drew1) | exact HB.out)⟩⟩
    ·rw [if_neg c4] at H
     have c4b0 : decide (x5_1 < (l0.length : Int)) = false := decide_eq_false c4
     clear c4
     (first | rw [c4b0] | (simp only [i64_w, i32_w]; rw [c4b0]) | skip)
     have H' := Aside0.mk H
     clear H
     go_wp2
     go_meet
     case rel => exact ⟨_, (false), (by first | rfl | (simp; done) | (simp [*]; done)), H', ⟨by have := HK1.out; first | omega | exact Nat.le_refl _⟩, ⟨by repeat (first | (with_reducible first | exact HB.out | apply below_alloc | apply pw_below_drewN | apply below_drew1) | exact HB.out)⟩⟩
   case rest =>
    clear HC3
    try clear c1
    try clear c2
    try clear p2
    try clear c4
    try clear c4b0
    try clear p2
    obtain ⟨kq, x17_2, rfl, HA, HJ2, HB⟩ := hcut
    cases kq with
    | zero => exact absurd HA.out (by simp [tidepoleref30_Compare.j1])
    | succ kj2 =>
     have H := HA.out
     clear HA
     simp only [tidepoleref30_Compare.j1] at H
     by_cases c5 : x17_2 = true
     ·subst c5
      have H1 : (if 0 ≤ x5_1 then (if x5_1 < (l0.length : Int) then (if x5_1 < (l1.length : Int) then (if (Op.bytesLess (((rd_T59 l0 x5_1).f1).toList) (((rd_T59 l1 x5_1).f1).toList)) = true then (tidepoleref30_Compare.j2 kj2 l0 l1 x5_1 true ((rd_T59 l0 x5_1).f0) ((rd_T59 l0 x5_1).f1) ((rd_T59 l0 x5_1).f2) ((rd_T59 l1 x5_1).f0) ((rd_T59 l1 x5_1).f1) ((rd_T59 l1 x5_1).f2)) else (if ((rd_T59 l0 x5_1).f1).toList = ((rd_T59 l1 x5_1).f1).toList then (tidepoleref30_Compare.j2 kj2 l0 l1 x5_1 (Op.bytesLess (((rd_T59 l0 x5_1).f2).toList) (((rd_T59 l1 x5_1).f2).toList)) ((rd_T59 l0 x5_1).f0) ((rd_T59 l0 x5_1).f1) ((rd_T59 l0 x5_1).f2) ((rd_T59 l1 x5_1).f0) ((rd_T59 l1 x5_1).f1) ((rd_T59 l1 x5_1).f2)) else (tidepoleref30_Compare.j2 kj2 l0 l1 x5_1 false ((rd_T59 l0 x5_1).f0) ((rd_T59 l0 x5_1).f1) ((rd_T59 l0 x5_1).f2) ((rd_T59 l1 x5_1).f0) ((rd_T59 l1 x5_1).f1) ((rd_T59 l1 x5_1).f2)))) else (none)) else (none)) else (none)) = some r := by rw [if_pos rfl] at H; exact H
      clear H
      have H := H1
      clear H1
      by_cases c6 : 0 ≤ x5_1
      ·rw [if_pos c6] at H
       have c6b0 : decide (0 ≤ x5_1) = true := decide_eq_true c6
       clear c6
       by_cases c7 : x5_1 < (l0.length : Int)
       ·rw [if_pos c7] at H
        have c7b0 : decide (x5_1 < (l0.length : Int)) = true := decide_eq_true c7
        clear c7
        by_cases c8 : x5_1 < (l1.length : Int)
        ·rw [if_pos c8] at H
         have c8b0 : decide (x5_1 < (l1.length : Int)) = true := decide_eq_true c8
         clear c8
         have HC9 := Aside0.mk H
         clear H
         try go_wp2
         have n0_ := Aside0.mk (below_drew1 HB.out)
         clear HB
         have HB := n0_
         clear n0_
         have p101 : 0 ≤ (x5_1 : Int) := of_decide_eq_true (by first | (with_reducible assumption) | assumption)
         have q101 : x5_1 < (l0.length : Int) := of_decide_eq_true (by first | (with_reducible assumption) | assumption)
         obtain ⟨ad101, e101, hx101_0, hx101_1, hx101_2⟩ := at_T59 HR0.out x5_1 p101 q101
         have hw101_2 := hx101_2
         have hw101_1 := hx101_1
         have hw101_0 := hx101_0
         cases e101
         replace hx101_0 := (HB.out.cell (World.block_lt_of_cell? w _ hx101_0)).trans hx101_0
         replace hx101_1 := (HB.out.cell (World.block_lt_of_cell? w _ hx101_1)).trans hx101_1
         replace hx101_2 := (HB.out.cell (World.block_lt_of_cell? w _ hx101_2)).trans hx101_2
         replace p101 := eq_true p101
         replace q101 := eq_true q101
         have p102 : 0 ≤ (x5_1 : Int) := of_decide_eq_true (by first | (with_reducible assumption) | assumption)
         have q102 : x5_1 < (l1.length : Int) := of_decide_eq_true (by first | (with_reducible assumption) | assumption)
         obtain ⟨ad102, e102, hx102_0, hx102_1, hx102_2⟩ := at_T59 HR1.out x5_1 p102 q102
         have hw102_2 := hx102_2
         have hw102_1 := hx102_1
         have hw102_0 := hx102_0
         cases e102
         replace hx102_0 := (HB.out.cell (World.block_lt_of_cell? w _ hx102_0)).trans hx102_0
         replace hx102_1 := (HB.out.cell (World.block_lt_of_cell? w _ hx102_1)).trans hx102_1
         replace hx102_2 := (HB.out.cell (World.block_lt_of_cell? w _ hx102_2)).trans hx102_2
         replace p102 := eq_true p102
         replace q102 := eq_true q102
         refine start_ (n := 12) (S := fun w' => w'.cell? (ad101.add ((x5_1).toNat * 3)) = some (.int .i64 ((rd_T59 l0 x5_1).f0)) ∧ w'.cell? ⟨(ad101.add ((x5_1).toNat * 3)).block, (ad101.add ((x5_1).toNat * 3)).off + 1, none⟩ = some (.string ((rd_T59 l0 x5_1).f1)) ∧ w'.cell? ⟨(ad101.add ((x5_1).toNat * 3)).block, (ad101.add ((x5_1).toNat * 3)).off + 2, none⟩ = some (.string ((rd_T59 l0 x5_1).f2)) ∧ w'.cell? (ad102.add ((x5_1).toNat * 3)) = some (.int .i64 ((rd_T59 l1 x5_1).f0)) ∧ w'.cell? ⟨(ad102.add ((x5_1).toNat * 3)).block, (ad102.add ((x5_1).toNat * 3)).off + 1, none⟩ = some (.string ((rd_T59 l1 x5_1).f1)) ∧ w'.cell? ⟨(ad102.add ((x5_1).toNat * 3)).block, (ad102.add ((x5_1).toNat * 3)).off + 2, none⟩ = some (.string ((rd_T59 l1 x5_1).f2))) (ds := []) #[false, false, false, false, false, false, false, false, false, false, false, false] (by kernel_rfl) rfl rfl ⟨((HB.out.cell (World.block_lt_of_cell? w _ hw101_0)).trans hw101_0), ((HB.out.cell (World.block_lt_of_cell? w _ hw101_1)).trans hw101_1), ((HB.out.cell (World.block_lt_of_cell? w _ hw101_2)).trans hw101_2), ((HB.out.cell (World.block_lt_of_cell? w _ hw102_0)).trans hw102_0), ((HB.out.cell (World.block_lt_of_cell? w _ hw102_1)).trans hw102_1), ((HB.out.cell (World.block_lt_of_cell? w _ hw102_2)).trans hw102_2)⟩ (fun hHeld => ?_); refine with_tabW tidepoleref30_Compare.tab4 tidepoleref30_Compare.bits4 (fun HT_ HW_ => ?_)
         generalize wc.drew = w10 at HB hx101_0 hx101_1 hx101_2 hx102_0 hx102_1 hx102_2 hHeld ⊢
         refine pure_ (i := 0) (N := some 20) (v := ?_) (a' := ?_) #[true, false, false, false, false, false, false, false, false, false, false, false] rfl rfl (any_of HT_.out (by kernel_rfl)) (fun _ _ _ h => h) (Or.inl ⟨by rfl, ?_⟩) ?_ ?_
         rotate_left
         ·intro w'
          go_simp
          with_reducible rfl
         rotate_left
         ·simp only [Act.put, List.setIfInBounds_toArray, List.set_cons_zero, List.set_cons_succ, i64_w, i32_w]
          rfl
         refine pure_ (i := 1) (N := some 21) (v := ?_) (a' := ?_) #[true, true, false, false, false, false, false, false, false, false, false, false] rfl rfl (any_of HT_.out (by kernel_rfl)) (fun _ _ _ h => h) (Or.inl ⟨by rfl, ?_⟩) ?_ ?_
         rotate_left
         ·intro w'
          go_simp
          with_reducible rfl
         rotate_left
         ·simp only [Act.put, List.setIfInBounds_toArray, List.set_cons_zero, List.set_cons_succ, i64_w, i32_w]
          rfl
         refine pure_ (i := 2) (N := some 22) (v := ?_) (a' := ?_) #[true, true, true, false, false, false, false, false, false, false, false, false] rfl rfl (any_of HT_.out (by kernel_rfl)) (fun _ _ _ h => h) (Or.inl ⟨by rfl, ?_⟩) ?_ ?_
         rotate_left
         ·intro w'
          go_simp
          with_reducible rfl
         rotate_left
         ·simp only [Act.put, List.setIfInBounds_toArray, List.set_cons_zero, List.set_cons_succ, i64_w, i32_w]
          rfl
         refine pure_ (i := 4) (N := some 24) (v := ?_) (a' := ?_) #[true, true, true, false, true, false, false, false, false, false, false, false] rfl rfl (any_of HT_.out (by kernel_rfl)) (fun _ _ _ h => h) (Or.inl ⟨by rfl, ?_⟩) ?_ ?_
         rotate_left
         ·intro w'
          go_simp
          with_reducible rfl
         rotate_left
         ·simp only [Act.put, List.setIfInBounds_toArray, List.set_cons_zero, List.set_cons_succ, i64_w, i32_w]
          rfl
         refine pure_ (i := 5) (N := some 25) (v := ?_) (a' := ?_) #[true, true, true, false, true, true, false, false, false, false, false, false] rfl rfl (any_of HT_.out (by kernel_rfl)) (fun _ _ _ h => h) (Or.inl ⟨by rfl, ?_⟩) ?_ ?_
         rotate_left
         ·intro w'
          go_simp
          with_reducible rfl
         rotate_left
         ·simp only [Act.put, List.setIfInBounds_toArray, List.set_cons_zero, List.set_cons_succ, i64_w, i32_w]
          rfl
         refine pure_ (i := 6) (N := some 26) (v := ?_) (a' := ?_) #[true, true, true, false, true, true, true, false, false, false, false, false] rfl rfl (any_of HT_.out (by kernel_rfl)) (fun _ _ _ h => h) (Or.inl ⟨by rfl, ?_⟩) ?_ ?_
         rotate_left
         ·intro w'
          go_simp
          with_reducible rfl
         rotate_left
         ·simp only [Act.put, List.setIfInBounds_toArray, List.set_cons_zero, List.set_cons_succ, i64_w, i32_w]
          rfl
         refine take_ (i := 3) (N := some 23) (v := ?_) (a' := ?_) #[true, true, true, true, true, true, true, false, false, false, false, false] rfl rfl (take_ofW HT_.out HW_.out (by kernel_rfl)) (fun _ _ _ h => h) (Or.inl ⟨by rfl, ?_⟩) hHeld ?_ ?_
         rotate_left
         ·rintro w' ⟨s0, s1, s2, s3, s4, s5⟩
          go_simp
          with_reducible rfl
         rotate_left
         ·simp only [Act.put, List.setIfInBounds_toArray, List.set_cons_zero, List.set_cons_succ, i64_w, i32_w]
          rfl
         refine take_ (i := 7) (N := some 27) (v := ?_) (a' := ?_) #[true, true, true, true, true, true, true, true, false, false, false, false] rfl rfl (take_ofW HT_.out HW_.out (by kernel_rfl)) (fun _ _ _ h => h) (Or.inl ⟨by rfl, ?_⟩) hHeld ?_ ?_
         rotate_left
         ·rintro w' ⟨s0, s1, s2, s3, s4, s5⟩
          go_simp
          with_reducible rfl
         rotate_left
         ·simp only [Act.put, List.setIfInBounds_toArray, List.set_cons_zero, List.set_cons_succ, i64_w, i32_w]
          rfl
         refine join_ (σ := Nat × Nat) 2 #[true, true, true, true, true, true, true, true, true, true, false, false] (fun s_ => [(6, .pointer (some ⟨s_.1, 0, none⟩)), (7, .pointer (some ⟨s_.2, 0, none⟩))]) (fun s_ w' => (w'.cell? (ad101.add ((x5_1).toNat * 3)) = some (.int .i64 ((rd_T59 l0 x5_1).f0)) ∧ w'.cell? ⟨(ad101.add ((x5_1).toNat * 3)).block, (ad101.add ((x5_1).toNat * 3)).off + 1, none⟩ = some (.string ((rd_T59 l0 x5_1).f1)) ∧ w'.cell? ⟨(ad101.add ((x5_1).toNat * 3)).block, (ad101.add ((x5_1).toNat * 3)).off + 2, none⟩ = some (.string ((rd_T59 l0 x5_1).f2)) ∧ w'.cell? (ad102.add ((x5_1).toNat * 3)) = some (.int .i64 ((rd_T59 l1 x5_1).f0)) ∧ w'.cell? ⟨(ad102.add ((x5_1).toNat * 3)).block, (ad102.add ((x5_1).toNat * 3)).off + 1, none⟩ = some (.string ((rd_T59 l1 x5_1).f1)) ∧ w'.cell? ⟨(ad102.add ((x5_1).toNat * 3)).block, (ad102.add ((x5_1).toNat * 3)).off + 2, none⟩ = some (.string ((rd_T59 l1 x5_1).f2))) ∧ (w'.heap[s_.1]? = some (.cells #[.int .i64 0, .string (⟨#[]⟩ : ByteArray), .string (⟨#[]⟩ : ByteArray)] 59 (0, 0))) ∧ (w'.heap[s_.2]? = some (.cells #[.int .i64 0, .string (⟨#[]⟩ : ByteArray), .string (⟨#[]⟩ : ByteArray)] 59 (0, 0))) ∧ (w.heap.size ≤ s_.1) ∧ (w.heap.size ≤ s_.1) ∧ (s_.2 ≠ s_.1) ∧ (s_.1 ≠ s_.2) ∧ (w.heap.size ≤ s_.2) ∧ (w.heap.size ≤ s_.2) ∧ (Below w.heap.size w w')) ?_ ?_
         rotate_left
         ·intro hCont
          refine two_ (i := 8) (j := 9) (Ni := some 6) (Nj := some 7) #[true, true, true, true, true, true, true, true, true, false, false, false] #[true, true, true, true, true, true, true, true, false, true, false, false] rfl rfl rfl rfl (two_of HT_.out (by kernel_rfl)) (by decide) (by decide) (fun K hK => ?_) (fun K hK => ?_)
          ·skip
           refine box_step ?hg (N := 6) ?hd (cs := #[.int .i64 0, .string (⟨#[]⟩ : ByteArray), .string (⟨#[]⟩ : ByteArray)]) (t := 59) ?hr ?_; (case hd => rfl); (case hg => rfl); (case hr => first | (go_simp; done) | (go_simp; rfl))
           intro gb103 hg w11 hbox hb
           have n0_ := Aside0.mk (below_step (by repeat (first | (with_reducible first | exact HB.out | apply below_alloc | apply pw_below_drewN | apply below_drew1) | exact HB.out)) hb)
           have n1_ := Aside0.mk (hbox)
           have n2_ := Aside0.mk ((by rw [hg]; exact (below_size (by repeat (first | (with_reducible first | exact HB.out | apply below_alloc | apply pw_below_drewN | apply below_drew1) | exact HB.out))) : w.heap.size ≤ gb103))
           have n3_ := Aside0.mk ((by rw [hg]; exact (below_size (by repeat (first | (with_reducible first | exact HB.out | apply below_alloc | apply pw_below_drewN | apply below_drew1) | exact HB.out))) : w.heap.size ≤ gb103))
           clear HB
           have HB := n0_
           have BK103 := n1_
           have GW103 := n2_
           have GE103 := n3_
           clear n0_ n1_ n2_ n3_
           clear hb hbox hg
           refine hK.out _ _ ⟨((HB.out.cell (World.block_lt_of_cell? w _ hw101_0)).trans hw101_0), ((HB.out.cell (World.block_lt_of_cell? w _ hw101_1)).trans hw101_1), ((HB.out.cell (World.block_lt_of_cell? w _ hw101_2)).trans hw101_2), ((HB.out.cell (World.block_lt_of_cell? w _ hw102_0)).trans hw102_0), ((HB.out.cell (World.block_lt_of_cell? w _ hw102_1)).trans hw102_1), ((HB.out.cell (World.block_lt_of_cell? w _ hw102_2)).trans hw102_2)⟩ (fun hHeld => ?_)
           clear hK K
           refine norm_ (a' := ?_) ?_ ?_
           rotate_left
           ·show Act.put _ (some 6) _ = _
            simp only [Act.put, List.setIfInBounds_toArray, List.set_cons_zero, List.set_cons_succ, i64_w, i32_w]
            rfl
           refine one_ (i := 9) (N := some 7) #[true, true, true, true, true, true, true, true, true, true, false, false] rfl rfl (one_of HT_.out (by kernel_rfl)) (by decide) (fun K hK => ?_)
           refine box_step ?hg (N := 7) ?hd (cs := #[.int .i64 0, .string (⟨#[]⟩ : ByteArray), .string (⟨#[]⟩ : ByteArray)]) (t := 59) ?hr ?_; (case hd => rfl); (case hg => rfl); (case hr => first | (go_simp; done) | (go_simp; rfl))
           intro gb104 hg w12 hbox hb
           have n0_ := Aside0.mk (blk_below (g := gb103) (o := .cells #[.int .i64 0, .string (⟨#[]⟩ : ByteArray), .string (⟨#[]⟩ : ByteArray)] 59 (0, 0)) (by (with_reducible repeat (first | refine blk_drewN ?_ _ | refine blk_drew ?_ | refine blk_alloc ?_ _)); exact BK103.out) hb)
           have n1_ := Aside0.mk (below_step (by repeat (first | (with_reducible first | exact HB.out | apply below_alloc | apply pw_below_drewN | apply below_drew1 | refine below_set ?_ GE103.out) | exact HB.out)) hb)
           have n2_ := Aside0.mk (hbox)
           have n3_ := Aside0.mk ((by rw [hg]; exact (below_size (by repeat (first | (with_reducible first | exact HB.out | apply below_alloc | apply pw_below_drewN | apply below_drew1 | refine below_set ?_ GE103.out) | exact HB.out))) : w.heap.size ≤ gb104))
           have n4_ := Aside0.mk ((by rw [hg]; exact (below_size (by repeat (first | (with_reducible first | exact HB.out | apply below_alloc | apply pw_below_drewN | apply below_drew1 | refine below_set ?_ GE103.out) | exact HB.out))) : w.heap.size ≤ gb104))
           have n5_ := Aside0.mk ((by rw [hg]; exact Nat.ne_of_lt (blk_lt (g := gb103) (o := .cells #[.int .i64 0, .string (⟨#[]⟩ : ByteArray), .string (⟨#[]⟩ : ByteArray)] 59 (0, 0)) (by (with_reducible repeat (first | refine blk_drewN ?_ _ | refine blk_drew ?_ | refine blk_alloc ?_ _)); exact BK103.out)) : gb103 ≠ gb104))
           have n6_ := Aside0.mk ((by rw [hg]; exact Nat.ne_of_gt (blk_lt (g := gb103) (o := .cells #[.int .i64 0, .string (⟨#[]⟩ : ByteArray), .string (⟨#[]⟩ : ByteArray)] 59 (0, 0)) (by (with_reducible repeat (first | refine blk_drewN ?_ _ | refine blk_drew ?_ | refine blk_alloc ?_ _)); exact BK103.out)) : gb104 ≠ gb103))
           clear BK103
           clear HB
           have BK103 := n0_
           have HB := n1_
           have BK104 := n2_
           have GW104 := n3_
           have GE104 := n4_
           have NB103_104 := n5_
           have NB104_103 := n6_
           clear n0_ n1_ n2_ n3_ n4_ n5_ n6_
           clear hb hbox hg
           refine hK.out _ _ ⟨((HB.out.cell (World.block_lt_of_cell? w _ hw101_0)).trans hw101_0), ((HB.out.cell (World.block_lt_of_cell? w _ hw101_1)).trans hw101_1), ((HB.out.cell (World.block_lt_of_cell? w _ hw101_2)).trans hw101_2), ((HB.out.cell (World.block_lt_of_cell? w _ hw102_0)).trans hw102_0), ((HB.out.cell (World.block_lt_of_cell? w _ hw102_1)).trans hw102_1), ((HB.out.cell (World.block_lt_of_cell? w _ hw102_2)).trans hw102_2)⟩ (fun hHeld => ?_)
           clear hK K
           refine norm_ (a' := ?_) ?_ ?_
           rotate_left
           ·show Act.put _ (some 7) _ = _
            simp only [Act.put, List.setIfInBounds_toArray, List.set_cons_zero, List.set_cons_succ, i64_w, i32_w]
            rfl
           exact norm_ (by simp only [putAll, Act.put, List.setIfInBounds_toArray, List.set_cons_zero, List.set_cons_succ]) (hCont (gb103, gb104) _ ⟨hHeld, (by (with_reducible repeat (first | refine blk_drewN ?_ _ | refine blk_drew ?_ | refine blk_alloc ?_ _)); exact BK103.out), (by (with_reducible repeat (first | refine blk_drewN ?_ _ | refine blk_drew ?_ | refine blk_alloc ?_ _)); exact BK104.out), GW103.out, GE103.out, NB104_103.out, NB103_104.out, GW104.out, GE104.out, (by repeat (first | (with_reducible first | exact HB.out | apply below_alloc | apply pw_below_drewN | apply below_drew1 | refine below_set ?_ GE103.out | refine below_set ?_ GE104.out) | exact HB.out))⟩)
          ·skip
           refine box_step ?hg (N := 7) ?hd (cs := #[.int .i64 0, .string (⟨#[]⟩ : ByteArray), .string (⟨#[]⟩ : ByteArray)]) (t := 59) ?hr ?_; (case hd => rfl); (case hg => rfl); (case hr => first | (go_simp; done) | (go_simp; rfl))
           intro gb104 hg w11 hbox hb
           have n0_ := Aside0.mk (below_step (by repeat (first | (with_reducible first | exact HB.out | apply below_alloc | apply pw_below_drewN | apply below_drew1) | exact HB.out)) hb)
           have n1_ := Aside0.mk (hbox)
           have n2_ := Aside0.mk ((by rw [hg]; exact (below_size (by repeat (first | (with_reducible first | exact HB.out | apply below_alloc | apply pw_below_drewN | apply below_drew1) | exact HB.out))) : w.heap.size ≤ gb104))
           have n3_ := Aside0.mk ((by rw [hg]; exact (below_size (by repeat (first | (with_reducible first | exact HB.out | apply below_alloc | apply pw_below_drewN | apply below_drew1) | exact HB.out))) : w.heap.size ≤ gb104))
           clear HB
           have HB := n0_
           have BK104 := n1_
           have GW104 := n2_
           have GE104 := n3_
           clear n0_ n1_ n2_ n3_
           clear hb hbox hg
           refine hK.out _ _ ⟨((HB.out.cell (World.block_lt_of_cell? w _ hw101_0)).trans hw101_0), ((HB.out.cell (World.block_lt_of_cell? w _ hw101_1)).trans hw101_1), ((HB.out.cell (World.block_lt_of_cell? w _ hw101_2)).trans hw101_2), ((HB.out.cell (World.block_lt_of_cell? w _ hw102_0)).trans hw102_0), ((HB.out.cell (World.block_lt_of_cell? w _ hw102_1)).trans hw102_1), ((HB.out.cell (World.block_lt_of_cell? w _ hw102_2)).trans hw102_2)⟩ (fun hHeld => ?_)
           clear hK K
           refine norm_ (a' := ?_) ?_ ?_
           rotate_left
           ·show Act.put _ (some 7) _ = _
            simp only [Act.put, List.setIfInBounds_toArray, List.set_cons_zero, List.set_cons_succ, i64_w, i32_w]
            rfl
           refine one_ (i := 8) (N := some 6) #[true, true, true, true, true, true, true, true, true, true, false, false] rfl rfl (one_of HT_.out (by kernel_rfl)) (by decide) (fun K hK => ?_)
           refine box_step ?hg (N := 6) ?hd (cs := #[.int .i64 0, .string (⟨#[]⟩ : ByteArray), .string (⟨#[]⟩ : ByteArray)]) (t := 59) ?hr ?_; (case hd => rfl); (case hg => rfl); (case hr => first | (go_simp; done) | (go_simp; rfl))
           intro gb103 hg w12 hbox hb
           have n0_ := Aside0.mk (blk_below (g := gb104) (o := .cells #[.int .i64 0, .string (⟨#[]⟩ : ByteArray), .string (⟨#[]⟩ : ByteArray)] 59 (0, 0)) (by (with_reducible repeat (first | refine blk_drewN ?_ _ | refine blk_drew ?_ | refine blk_alloc ?_ _)); exact BK104.out) hb)
           have n1_ := Aside0.mk (below_step (by repeat (first | (with_reducible first | exact HB.out | apply below_alloc | apply pw_below_drewN | apply below_drew1 | refine below_set ?_ GE104.out) | exact HB.out)) hb)
           have n2_ := Aside0.mk (hbox)
           have n3_ := Aside0.mk ((by rw [hg]; exact (below_size (by repeat (first | (with_reducible first | exact HB.out | apply below_alloc | apply pw_below_drewN | apply below_drew1 | refine below_set ?_ GE104.out) | exact HB.out))) : w.heap.size ≤ gb103))
           have n4_ := Aside0.mk ((by rw [hg]; exact (below_size (by repeat (first | (with_reducible first | exact HB.out | apply below_alloc | apply pw_below_drewN | apply below_drew1 | refine below_set ?_ GE104.out) | exact HB.out))) : w.heap.size ≤ gb103))
           have n5_ := Aside0.mk ((by rw [hg]; exact Nat.ne_of_lt (blk_lt (g := gb104) (o := .cells #[.int .i64 0, .string (⟨#[]⟩ : ByteArray), .string (⟨#[]⟩ : ByteArray)] 59 (0, 0)) (by (with_reducible repeat (first | refine blk_drewN ?_ _ | refine blk_drew ?_ | refine blk_alloc ?_ _)); exact BK104.out)) : gb104 ≠ gb103))
           have n6_ := Aside0.mk ((by rw [hg]; exact Nat.ne_of_gt (blk_lt (g := gb104) (o := .cells #[.int .i64 0, .string (⟨#[]⟩ : ByteArray), .string (⟨#[]⟩ : ByteArray)] 59 (0, 0)) (by (with_reducible repeat (first | refine blk_drewN ?_ _ | refine blk_drew ?_ | refine blk_alloc ?_ _)); exact BK104.out)) : gb103 ≠ gb104))
           clear BK104
           clear HB
           have BK104 := n0_
           have HB := n1_
           have BK103 := n2_
           have GW103 := n3_
           have GE103 := n4_
           have NB104_103 := n5_
           have NB103_104 := n6_
           clear n0_ n1_ n2_ n3_ n4_ n5_ n6_
           clear hb hbox hg
           refine hK.out _ _ ⟨((HB.out.cell (World.block_lt_of_cell? w _ hw101_0)).trans hw101_0), ((HB.out.cell (World.block_lt_of_cell? w _ hw101_1)).trans hw101_1), ((HB.out.cell (World.block_lt_of_cell? w _ hw101_2)).trans hw101_2), ((HB.out.cell (World.block_lt_of_cell? w _ hw102_0)).trans hw102_0), ((HB.out.cell (World.block_lt_of_cell? w _ hw102_1)).trans hw102_1), ((HB.out.cell (World.block_lt_of_cell? w _ hw102_2)).trans hw102_2)⟩ (fun hHeld => ?_)
           clear hK K
           refine norm_ (a' := ?_) ?_ ?_
           rotate_left
           ·show Act.put _ (some 6) _ = _
            simp only [Act.put, List.setIfInBounds_toArray, List.set_cons_zero, List.set_cons_succ, i64_w, i32_w]
            rfl
           exact norm_ (by simp only [putAll, Act.put, List.setIfInBounds_toArray, List.set_cons_zero, List.set_cons_succ]) (hCont (gb103, gb104) _ ⟨hHeld, (by (with_reducible repeat (first | refine blk_drewN ?_ _ | refine blk_drew ?_ | refine blk_alloc ?_ _)); exact BK103.out), (by (with_reducible repeat (first | refine blk_drewN ?_ _ | refine blk_drew ?_ | refine blk_alloc ?_ _)); exact BK104.out), GW103.out, GE103.out, NB104_103.out, NB103_104.out, GW104.out, GE104.out, (by repeat (first | (with_reducible first | exact HB.out | apply below_alloc | apply pw_below_drewN | apply below_drew1 | refine below_set ?_ GE104.out | refine below_set ?_ GE103.out) | exact HB.out))⟩)
         rintro ⟨gb103, gb104⟩ w13 ⟨hS_, h0_, h1_, h2_, h3_, h4_, h5_, h6_, h7_, h8_⟩
         have n0_ : Aside0 (w13.heap[gb103]? = some (.cells #[.int .i64 0, .string (⟨#[]⟩ : ByteArray), .string (⟨#[]⟩ : ByteArray)] 59 (0, 0))) := ⟨h0_⟩
         have n1_ : Aside0 (w13.heap[gb104]? = some (.cells #[.int .i64 0, .string (⟨#[]⟩ : ByteArray), .string (⟨#[]⟩ : ByteArray)] 59 (0, 0))) := ⟨h1_⟩
         have n2_ : Aside0 (w.heap.size ≤ gb103) := ⟨h2_⟩
         have n3_ : Aside0 (w.heap.size ≤ gb103) := ⟨h3_⟩
         have n4_ : Aside0 (gb104 ≠ gb103) := ⟨h4_⟩
         have n5_ : Aside0 (gb103 ≠ gb104) := ⟨h5_⟩
         have n6_ : Aside0 (w.heap.size ≤ gb104) := ⟨h6_⟩
         have n7_ : Aside0 (w.heap.size ≤ gb104) := ⟨h7_⟩
         have n8_ : Aside0 (Below w.heap.size w w13) := ⟨h8_⟩
         clear HB
         clear h0_ h1_ h2_ h3_ h4_ h5_ h6_ h7_ h8_
         have BK103 := n0_
         have BK104 := n1_
         have GW103 := n2_
         have GE103 := n3_
         have NB104_103 := n4_
         have NB103_104 := n5_
         have GW104 := n6_
         have GE104 := n7_
         have HB := n8_
         clear n0_ n1_ n2_ n3_ n4_ n5_ n6_ n7_ n8_
         have hHeld : w13.cell? (ad101.add ((x5_1).toNat * 3)) = some (.int .i64 ((rd_T59 l0 x5_1).f0)) ∧ w13.cell? ⟨(ad101.add ((x5_1).toNat * 3)).block, (ad101.add ((x5_1).toNat * 3)).off + 1, none⟩ = some (.string ((rd_T59 l0 x5_1).f1)) ∧ w13.cell? ⟨(ad101.add ((x5_1).toNat * 3)).block, (ad101.add ((x5_1).toNat * 3)).off + 2, none⟩ = some (.string ((rd_T59 l0 x5_1).f2)) ∧ w13.cell? (ad102.add ((x5_1).toNat * 3)) = some (.int .i64 ((rd_T59 l1 x5_1).f0)) ∧ w13.cell? ⟨(ad102.add ((x5_1).toNat * 3)).block, (ad102.add ((x5_1).toNat * 3)).off + 1, none⟩ = some (.string ((rd_T59 l1 x5_1).f1)) ∧ w13.cell? ⟨(ad102.add ((x5_1).toNat * 3)).block, (ad102.add ((x5_1).toNat * 3)).off + 2, none⟩ = some (.string ((rd_T59 l1 x5_1).f2)) := hS_
         refine norm_ (a' := ?_) ?_ ?_
         rotate_left
         ·simp only [putAll, Act.put, List.setIfInBounds_toArray, List.set_cons_zero, List.set_cons_succ]
          rfl
         refine one_ (i := 10) (N := none) #[true, true, true, true, true, true, true, true, true, true, true, false] rfl rfl (one_of HT_.out (by kernel_rfl)) (by decide) (fun K hK => ?_)
         have hs14 : w13.cell? ⟨gb103, 0, none⟩ = some (.int .i64 0) := (blk_cell BK103.out 0).trans rfl
         have hfs14 := blk_frozen BK103.out 0
         have hns14_1 := NB104_103.out
         have hms14_1 := NB103_104.out
         have hs15 : w13.cell? ⟨gb103, 1, none⟩ = some (.string (⟨#[]⟩ : ByteArray)) := (blk_cell BK103.out 1).trans rfl
         have hfs15 := blk_frozen BK103.out 1
         have hns15_1 := NB104_103.out
         have hms15_1 := NB103_104.out
         have hs16 : w13.cell? ⟨gb103, 2, none⟩ = some (.string (⟨#[]⟩ : ByteArray)) := (blk_cell BK103.out 2).trans rfl
         have hfs16 := blk_frozen BK103.out 2
         have hns16_1 := NB104_103.out
         have hms16_1 := NB103_104.out
         refine skip_ (w1 := ?_) (by rfl) rfl ?_ ?_
         rotate_left
         ·go_simp
          rfl
         refine hK.out _ _ ⟨((cell_far (p := ⟨gb103, _, none⟩) (by first | exact Nat.ne_of_lt (Nat.lt_of_lt_of_le (by have := World.block_lt_of_cell? _ _ hw101_0; first | rwa [add_block] at this | exact this) GW103.out) | (rw [add_block]; exact Nat.ne_of_lt (Nat.lt_of_lt_of_le (by have := World.block_lt_of_cell? _ _ hw101_0; first | rwa [add_block] at this | exact this) GW103.out)) | (show (Addr.add _ _).block ≠ _; rw [add_block]; exact Nat.ne_of_lt (Nat.lt_of_lt_of_le (by have := World.block_lt_of_cell? _ _ hw101_0; first | rwa [add_block] at this | exact this) GW103.out)) | (dsimp only; exact Nat.ne_of_lt (Nat.lt_of_lt_of_le (by have := World.block_lt_of_cell? _ _ hw101_0; first | rwa [add_block] at this | exact this) GW103.out))) _).trans (((cell_far (p := ⟨gb103, _, none⟩) (by first | exact Nat.ne_of_lt (Nat.lt_of_lt_of_le (by have := World.block_lt_of_cell? _ _ hw101_0; first | rwa [add_block] at this | exact this) GW103.out) | (rw [add_block]; exact Nat.ne_of_lt (Nat.lt_of_lt_of_le (by have := World.block_lt_of_cell? _ _ hw101_0; first | rwa [add_block] at this | exact this) GW103.out)) | (show (Addr.add _ _).block ≠ _; rw [add_block]; exact Nat.ne_of_lt (Nat.lt_of_lt_of_le (by have := World.block_lt_of_cell? _ _ hw101_0; first | rwa [add_block] at this | exact this) GW103.out)) | (dsimp only; exact Nat.ne_of_lt (Nat.lt_of_lt_of_le (by have := World.block_lt_of_cell? _ _ hw101_0; first | rwa [add_block] at this | exact this) GW103.out))) _).trans (((cell_far (p := ⟨gb103, _, none⟩) (by first | exact Nat.ne_of_lt (Nat.lt_of_lt_of_le (by have := World.block_lt_of_cell? _ _ hw101_0; first | rwa [add_block] at this | exact this) GW103.out) | (rw [add_block]; exact Nat.ne_of_lt (Nat.lt_of_lt_of_le (by have := World.block_lt_of_cell? _ _ hw101_0; first | rwa [add_block] at this | exact this) GW103.out)) | (show (Addr.add _ _).block ≠ _; rw [add_block]; exact Nat.ne_of_lt (Nat.lt_of_lt_of_le (by have := World.block_lt_of_cell? _ _ hw101_0; first | rwa [add_block] at this | exact this) GW103.out)) | (dsimp only; exact Nat.ne_of_lt (Nat.lt_of_lt_of_le (by have := World.block_lt_of_cell? _ _ hw101_0; first | rwa [add_block] at this | exact this) GW103.out))) _).trans (hHeld.1)))))), ((cell_far (p := ⟨gb103, _, none⟩) (by first | exact Nat.ne_of_lt (Nat.lt_of_lt_of_le (by have := World.block_lt_of_cell? _ _ hw101_1; first | rwa [add_block] at this | exact this) GW103.out) | (rw [add_block]; exact Nat.ne_of_lt (Nat.lt_of_lt_of_le (by have := World.block_lt_of_cell? _ _ hw101_1; first | rwa [add_block] at this | exact this) GW103.out)) | (show (Addr.add _ _).block ≠ _; rw [add_block]; exact Nat.ne_of_lt (Nat.lt_of_lt_of_le (by have := World.block_lt_of_cell? _ _ hw101_1; first | rwa [add_block] at this | exact this) GW103.out)) | (dsimp only; exact Nat.ne_of_lt (Nat.lt_of_lt_of_le (by have := World.block_lt_of_cell? _ _ hw101_1; first | rwa [add_block] at this | exact this) GW103.out))) _).trans (((cell_far (p := ⟨gb103, _, none⟩) (by first | exact Nat.ne_of_lt (Nat.lt_of_lt_of_le (by have := World.block_lt_of_cell? _ _ hw101_1; first | rwa [add_block] at this | exact this) GW103.out) | (rw [add_block]; exact Nat.ne_of_lt (Nat.lt_of_lt_of_le (by have := World.block_lt_of_cell? _ _ hw101_1; first | rwa [add_block] at this | exact this) GW103.out)) | (show (Addr.add _ _).block ≠ _; rw [add_block]; exact Nat.ne_of_lt (Nat.lt_of_lt_of_le (by have := World.block_lt_of_cell? _ _ hw101_1; first | rwa [add_block] at this | exact this) GW103.out)) | (dsimp only; exact Nat.ne_of_lt (Nat.lt_of_lt_of_le (by have := World.block_lt_of_cell? _ _ hw101_1; first | rwa [add_block] at this | exact this) GW103.out))) _).trans (((cell_far (p := ⟨gb103, _, none⟩) (by first | exact Nat.ne_of_lt (Nat.lt_of_lt_of_le (by have := World.block_lt_of_cell? _ _ hw101_1; first | rwa [add_block] at this | exact this) GW103.out) | (rw [add_block]; exact Nat.ne_of_lt (Nat.lt_of_lt_of_le (by have := World.block_lt_of_cell? _ _ hw101_1; first | rwa [add_block] at this | exact this) GW103.out)) | (show (Addr.add _ _).block ≠ _; rw [add_block]; exact Nat.ne_of_lt (Nat.lt_of_lt_of_le (by have := World.block_lt_of_cell? _ _ hw101_1; first | rwa [add_block] at this | exact this) GW103.out)) | (dsimp only; exact Nat.ne_of_lt (Nat.lt_of_lt_of_le (by have := World.block_lt_of_cell? _ _ hw101_1; first | rwa [add_block] at this | exact this) GW103.out))) _).trans (hHeld.2.1)))))), ((cell_far (p := ⟨gb103, _, none⟩) (by first | exact Nat.ne_of_lt (Nat.lt_of_lt_of_le (by have := World.block_lt_of_cell? _ _ hw101_2; first | rwa [add_block] at this | exact this) GW103.out) | (rw [add_block]; exact Nat.ne_of_lt (Nat.lt_of_lt_of_le (by have := World.block_lt_of_cell? _ _ hw101_2; first | rwa [add_block] at this | exact this) GW103.out)) | (show (Addr.add _ _).block ≠ _; rw [add_block]; exact Nat.ne_of_lt (Nat.lt_of_lt_of_le (by have := World.block_lt_of_cell? _ _ hw101_2; first | rwa [add_block] at this | exact this) GW103.out)) | (dsimp only; exact Nat.ne_of_lt (Nat.lt_of_lt_of_le (by have := World.block_lt_of_cell? _ _ hw101_2; first | rwa [add_block] at this | exact this) GW103.out))) _).trans (((cell_far (p := ⟨gb103, _, none⟩) (by first | exact Nat.ne_of_lt (Nat.lt_of_lt_of_le (by have := World.block_lt_of_cell? _ _ hw101_2; first | rwa [add_block] at this | exact this) GW103.out) | (rw [add_block]; exact Nat.ne_of_lt (Nat.lt_of_lt_of_le (by have := World.block_lt_of_cell? _ _ hw101_2; first | rwa [add_block] at this | exact this) GW103.out)) | (show (Addr.add _ _).block ≠ _; rw [add_block]; exact Nat.ne_of_lt (Nat.lt_of_lt_of_le (by have := World.block_lt_of_cell? _ _ hw101_2; first | rwa [add_block] at this | exact this) GW103.out)) | (dsimp only; exact Nat.ne_of_lt (Nat.lt_of_lt_of_le (by have := World.block_lt_of_cell? _ _ hw101_2; first | rwa [add_block] at this | exact this) GW103.out))) _).trans (((cell_far (p := ⟨gb103, _, none⟩) (by first | exact Nat.ne_of_lt (Nat.lt_of_lt_of_le (by have := World.block_lt_of_cell? _ _ hw101_2; first | rwa [add_block] at this | exact this) GW103.out) | (rw [add_block]; exact Nat.ne_of_lt (Nat.lt_of_lt_of_le (by have := World.block_lt_of_cell? _ _ hw101_2; first | rwa [add_block] at this | exact this) GW103.out)) | (show (Addr.add _ _).block ≠ _; rw [add_block]; exact Nat.ne_of_lt (Nat.lt_of_lt_of_le (by have := World.block_lt_of_cell? _ _ hw101_2; first | rwa [add_block] at this | exact this) GW103.out)) | (dsimp only; exact Nat.ne_of_lt (Nat.lt_of_lt_of_le (by have := World.block_lt_of_cell? _ _ hw101_2; first | rwa [add_block] at this | exact this) GW103.out))) _).trans (hHeld.2.2.1)))))), ((cell_far (p := ⟨gb103, _, none⟩) (by first | exact Nat.ne_of_lt (Nat.lt_of_lt_of_le (by have := World.block_lt_of_cell? _ _ hw102_0; first | rwa [add_block] at this | exact this) GW103.out) | (rw [add_block]; exact Nat.ne_of_lt (Nat.lt_of_lt_of_le (by have := World.block_lt_of_cell? _ _ hw102_0; first | rwa [add_block] at this | exact this) GW103.out)) | (show (Addr.add _ _).block ≠ _; rw [add_block]; exact Nat.ne_of_lt (Nat.lt_of_lt_of_le (by have := World.block_lt_of_cell? _ _ hw102_0; first | rwa [add_block] at this | exact this) GW103.out)) | (dsimp only; exact Nat.ne_of_lt (Nat.lt_of_lt_of_le (by have := World.block_lt_of_cell? _ _ hw102_0; first | rwa [add_block] at this | exact this) GW103.out))) _).trans (((cell_far (p := ⟨gb103, _, none⟩) (by first | exact Nat.ne_of_lt (Nat.lt_of_lt_of_le (by have := World.block_lt_of_cell? _ _ hw102_0; first | rwa [add_block] at this | exact this) GW103.out) | (rw [add_block]; exact Nat.ne_of_lt (Nat.lt_of_lt_of_le (by have := World.block_lt_of_cell? _ _ hw102_0; first | rwa [add_block] at this | exact this) GW103.out)) | (show (Addr.add _ _).block ≠ _; rw [add_block]; exact Nat.ne_of_lt (Nat.lt_of_lt_of_le (by have := World.block_lt_of_cell? _ _ hw102_0; first | rwa [add_block] at this | exact this) GW103.out)) | (dsimp only; exact Nat.ne_of_lt (Nat.lt_of_lt_of_le (by have := World.block_lt_of_cell? _ _ hw102_0; first | rwa [add_block] at this | exact this) GW103.out))) _).trans (((cell_far (p := ⟨gb103, _, none⟩) (by first | exact Nat.ne_of_lt (Nat.lt_of_lt_of_le (by have := World.block_lt_of_cell? _ _ hw102_0; first | rwa [add_block] at this | exact this) GW103.out) | (rw [add_block]; exact Nat.ne_of_lt (Nat.lt_of_lt_of_le (by have := World.block_lt_of_cell? _ _ hw102_0; first | rwa [add_block] at this | exact this) GW103.out)) | (show (Addr.add _ _).block ≠ _; rw [add_block]; exact Nat.ne_of_lt (Nat.lt_of_lt_of_le (by have := World.block_lt_of_cell? _ _ hw102_0; first | rwa [add_block] at this | exact this) GW103.out)) | (dsimp only; exact Nat.ne_of_lt (Nat.lt_of_lt_of_le (by have := World.block_lt_of_cell? _ _ hw102_0; first | rwa [add_block] at this | exact this) GW103.out))) _).trans (hHeld.2.2.2.1)))))), ((cell_far (p := ⟨gb103, _, none⟩) (by first | exact Nat.ne_of_lt (Nat.lt_of_lt_of_le (by have := World.block_lt_of_cell? _ _ hw102_1; first | rwa [add_block] at this | exact this) GW103.out) | (rw [add_block]; exact Nat.ne_of_lt (Nat.lt_of_lt_of_le (by have := World.block_lt_of_cell? _ _ hw102_1; first | rwa [add_block] at this | exact this) GW103.out)) | (show (Addr.add _ _).block ≠ _; rw [add_block]; exact Nat.ne_of_lt (Nat.lt_of_lt_of_le (by have := World.block_lt_of_cell? _ _ hw102_1; first | rwa [add_block] at this | exact this) GW103.out)) | (dsimp only; exact Nat.ne_of_lt (Nat.lt_of_lt_of_le (by have := World.block_lt_of_cell? _ _ hw102_1; first | rwa [add_block] at this | exact this) GW103.out))) _).trans (((cell_far (p := ⟨gb103, _, none⟩) (by first | exact Nat.ne_of_lt (Nat.lt_of_lt_of_le (by have := World.block_lt_of_cell? _ _ hw102_1; first | rwa [add_block] at this | exact this) GW103.out) | (rw [add_block]; exact Nat.ne_of_lt (Nat.lt_of_lt_of_le (by have := World.block_lt_of_cell? _ _ hw102_1; first | rwa [add_block] at this | exact this) GW103.out)) | (show (Addr.add _ _).block ≠ _; rw [add_block]; exact Nat.ne_of_lt (Nat.lt_of_lt_of_le (by have := World.block_lt_of_cell? _ _ hw102_1; first | rwa [add_block] at this | exact this) GW103.out)) | (dsimp only; exact Nat.ne_of_lt (Nat.lt_of_lt_of_le (by have := World.block_lt_of_cell? _ _ hw102_1; first | rwa [add_block] at this | exact this) GW103.out))) _).trans (((cell_far (p := ⟨gb103, _, none⟩) (by first | exact Nat.ne_of_lt (Nat.lt_of_lt_of_le (by have := World.block_lt_of_cell? _ _ hw102_1; first | rwa [add_block] at this | exact this) GW103.out) | (rw [add_block]; exact Nat.ne_of_lt (Nat.lt_of_lt_of_le (by have := World.block_lt_of_cell? _ _ hw102_1; first | rwa [add_block] at this | exact this) GW103.out)) | (show (Addr.add _ _).block ≠ _; rw [add_block]; exact Nat.ne_of_lt (Nat.lt_of_lt_of_le (by have := World.block_lt_of_cell? _ _ hw102_1; first | rwa [add_block] at this | exact this) GW103.out)) | (dsimp only; exact Nat.ne_of_lt (Nat.lt_of_lt_of_le (by have := World.block_lt_of_cell? _ _ hw102_1; first | rwa [add_block] at this | exact this) GW103.out))) _).trans (hHeld.2.2.2.2.1)))))), ((cell_far (p := ⟨gb103, _, none⟩) (by first | exact Nat.ne_of_lt (Nat.lt_of_lt_of_le (by have := World.block_lt_of_cell? _ _ hw102_2; first | rwa [add_block] at this | exact this) GW103.out) | (rw [add_block]; exact Nat.ne_of_lt (Nat.lt_of_lt_of_le (by have := World.block_lt_of_cell? _ _ hw102_2; first | rwa [add_block] at this | exact this) GW103.out)) | (show (Addr.add _ _).block ≠ _; rw [add_block]; exact Nat.ne_of_lt (Nat.lt_of_lt_of_le (by have := World.block_lt_of_cell? _ _ hw102_2; first | rwa [add_block] at this | exact this) GW103.out)) | (dsimp only; exact Nat.ne_of_lt (Nat.lt_of_lt_of_le (by have := World.block_lt_of_cell? _ _ hw102_2; first | rwa [add_block] at this | exact this) GW103.out))) _).trans (((cell_far (p := ⟨gb103, _, none⟩) (by first | exact Nat.ne_of_lt (Nat.lt_of_lt_of_le (by have := World.block_lt_of_cell? _ _ hw102_2; first | rwa [add_block] at this | exact this) GW103.out) | (rw [add_block]; exact Nat.ne_of_lt (Nat.lt_of_lt_of_le (by have := World.block_lt_of_cell? _ _ hw102_2; first | rwa [add_block] at this | exact this) GW103.out)) | (show (Addr.add _ _).block ≠ _; rw [add_block]; exact Nat.ne_of_lt (Nat.lt_of_lt_of_le (by have := World.block_lt_of_cell? _ _ hw102_2; first | rwa [add_block] at this | exact this) GW103.out)) | (dsimp only; exact Nat.ne_of_lt (Nat.lt_of_lt_of_le (by have := World.block_lt_of_cell? _ _ hw102_2; first | rwa [add_block] at this | exact this) GW103.out))) _).trans (((cell_far (p := ⟨gb103, _, none⟩) (by first | exact Nat.ne_of_lt (Nat.lt_of_lt_of_le (by have := World.block_lt_of_cell? _ _ hw102_2; first | rwa [add_block] at this | exact this) GW103.out) | (rw [add_block]; exact Nat.ne_of_lt (Nat.lt_of_lt_of_le (by have := World.block_lt_of_cell? _ _ hw102_2; first | rwa [add_block] at this | exact this) GW103.out)) | (show (Addr.add _ _).block ≠ _; rw [add_block]; exact Nat.ne_of_lt (Nat.lt_of_lt_of_le (by have := World.block_lt_of_cell? _ _ hw102_2; first | rwa [add_block] at this | exact this) GW103.out)) | (dsimp only; exact Nat.ne_of_lt (Nat.lt_of_lt_of_le (by have := World.block_lt_of_cell? _ _ hw102_2; first | rwa [add_block] at this | exact this) GW103.out))) _).trans (hHeld.2.2.2.2.2))))))⟩ (fun hHeld => ?_)
         clear hK K
         refine one_ (i := 11) (N := none) #[true, true, true, true, true, true, true, true, true, true, true, true] rfl rfl (one_of HT_.out (by kernel_rfl)) (by decide) (fun K hK => ?_)
         have hs17 : w13.cell? ⟨gb104, 0, none⟩ = some (.int .i64 0) := (blk_cell BK104.out 0).trans rfl
         have hfs17 := blk_frozen BK104.out 0
         have hns17_0 := NB103_104.out
         have hms17_0 := NB104_103.out
         have hs18 : w13.cell? ⟨gb104, 1, none⟩ = some (.string (⟨#[]⟩ : ByteArray)) := (blk_cell BK104.out 1).trans rfl
         have hfs18 := blk_frozen BK104.out 1
         have hns18_0 := NB103_104.out
         have hms18_0 := NB104_103.out
         have hs19 : w13.cell? ⟨gb104, 2, none⟩ = some (.string (⟨#[]⟩ : ByteArray)) := (blk_cell BK104.out 2).trans rfl
         have hfs19 := blk_frozen BK104.out 2
         have hns19_0 := NB103_104.out
         have hms19_0 := NB104_103.out
         refine skip_ (w1 := ?_) (by rfl) rfl ?_ ?_
         rotate_left
         ·go_simp
          rfl
         refine hK.out _ _ ⟨((cell_far (p := ⟨gb104, _, none⟩) (by first | exact Nat.ne_of_lt (Nat.lt_of_lt_of_le (by have := World.block_lt_of_cell? _ _ hw101_0; first | rwa [add_block] at this | exact this) GW104.out) | (rw [add_block]; exact Nat.ne_of_lt (Nat.lt_of_lt_of_le (by have := World.block_lt_of_cell? _ _ hw101_0; first | rwa [add_block] at this | exact this) GW104.out)) | (show (Addr.add _ _).block ≠ _; rw [add_block]; exact Nat.ne_of_lt (Nat.lt_of_lt_of_le (by have := World.block_lt_of_cell? _ _ hw101_0; first | rwa [add_block] at this | exact this) GW104.out)) | (dsimp only; exact Nat.ne_of_lt (Nat.lt_of_lt_of_le (by have := World.block_lt_of_cell? _ _ hw101_0; first | rwa [add_block] at this | exact this) GW104.out))) _).trans (((cell_far (p := ⟨gb104, _, none⟩) (by first | exact Nat.ne_of_lt (Nat.lt_of_lt_of_le (by have := World.block_lt_of_cell? _ _ hw101_0; first | rwa [add_block] at this | exact this) GW104.out) | (rw [add_block]; exact Nat.ne_of_lt (Nat.lt_of_lt_of_le (by have := World.block_lt_of_cell? _ _ hw101_0; first | rwa [add_block] at this | exact this) GW104.out)) | (show (Addr.add _ _).block ≠ _; rw [add_block]; exact Nat.ne_of_lt (Nat.lt_of_lt_of_le (by have := World.block_lt_of_cell? _ _ hw101_0; first | rwa [add_block] at this | exact this) GW104.out)) | (dsimp only; exact Nat.ne_of_lt (Nat.lt_of_lt_of_le (by have := World.block_lt_of_cell? _ _ hw101_0; first | rwa [add_block] at this | exact this) GW104.out))) _).trans (((cell_far (p := ⟨gb104, _, none⟩) (by first | exact Nat.ne_of_lt (Nat.lt_of_lt_of_le (by have := World.block_lt_of_cell? _ _ hw101_0; first | rwa [add_block] at this | exact this) GW104.out) | (rw [add_block]; exact Nat.ne_of_lt (Nat.lt_of_lt_of_le (by have := World.block_lt_of_cell? _ _ hw101_0; first | rwa [add_block] at this | exact this) GW104.out)) | (show (Addr.add _ _).block ≠ _; rw [add_block]; exact Nat.ne_of_lt (Nat.lt_of_lt_of_le (by have := World.block_lt_of_cell? _ _ hw101_0; first | rwa [add_block] at this | exact this) GW104.out)) | (dsimp only; exact Nat.ne_of_lt (Nat.lt_of_lt_of_le (by have := World.block_lt_of_cell? _ _ hw101_0; first | rwa [add_block] at this | exact this) GW104.out))) _).trans (hHeld.1)))))), ((cell_far (p := ⟨gb104, _, none⟩) (by first | exact Nat.ne_of_lt (Nat.lt_of_lt_of_le (by have := World.block_lt_of_cell? _ _ hw101_1; first | rwa [add_block] at this | exact this) GW104.out) | (rw [add_block]; exact Nat.ne_of_lt (Nat.lt_of_lt_of_le (by have := World.block_lt_of_cell? _ _ hw101_1; first | rwa [add_block] at this | exact this) GW104.out)) | (show (Addr.add _ _).block ≠ _; rw [add_block]; exact Nat.ne_of_lt (Nat.lt_of_lt_of_le (by have := World.block_lt_of_cell? _ _ hw101_1; first | rwa [add_block] at this | exact this) GW104.out)) | (dsimp only; exact Nat.ne_of_lt (Nat.lt_of_lt_of_le (by have := World.block_lt_of_cell? _ _ hw101_1; first | rwa [add_block] at this | exact this) GW104.out))) _).trans (((cell_far (p := ⟨gb104, _, none⟩) (by first | exact Nat.ne_of_lt (Nat.lt_of_lt_of_le (by have := World.block_lt_of_cell? _ _ hw101_1; first | rwa [add_block] at this | exact this) GW104.out) | (rw [add_block]; exact Nat.ne_of_lt (Nat.lt_of_lt_of_le (by have := World.block_lt_of_cell? _ _ hw101_1; first | rwa [add_block] at this | exact this) GW104.out)) | (show (Addr.add _ _).block ≠ _; rw [add_block]; exact Nat.ne_of_lt (Nat.lt_of_lt_of_le (by have := World.block_lt_of_cell? _ _ hw101_1; first | rwa [add_block] at this | exact this) GW104.out)) | (dsimp only; exact Nat.ne_of_lt (Nat.lt_of_lt_of_le (by have := World.block_lt_of_cell? _ _ hw101_1; first | rwa [add_block] at this | exact this) GW104.out))) _).trans (((cell_far (p := ⟨gb104, _, none⟩) (by first | exact Nat.ne_of_lt (Nat.lt_of_lt_of_le (by have := World.block_lt_of_cell? _ _ hw101_1; first | rwa [add_block] at this | exact this) GW104.out) | (rw [add_block]; exact Nat.ne_of_lt (Nat.lt_of_lt_of_le (by have := World.block_lt_of_cell? _ _ hw101_1; first | rwa [add_block] at this | exact this) GW104.out)) | (show (Addr.add _ _).block ≠ _; rw [add_block]; exact Nat.ne_of_lt (Nat.lt_of_lt_of_le (by have := World.block_lt_of_cell? _ _ hw101_1; first | rwa [add_block] at this | exact this) GW104.out)) | (dsimp only; exact Nat.ne_of_lt (Nat.lt_of_lt_of_le (by have := World.block_lt_of_cell? _ _ hw101_1; first | rwa [add_block] at this | exact this) GW104.out))) _).trans (hHeld.2.1)))))), ((cell_far (p := ⟨gb104, _, none⟩) (by first | exact Nat.ne_of_lt (Nat.lt_of_lt_of_le (by have := World.block_lt_of_cell? _ _ hw101_2; first | rwa [add_block] at this | exact this) GW104.out) | (rw [add_block]; exact Nat.ne_of_lt (Nat.lt_of_lt_of_le (by have := World.block_lt_of_cell? _ _ hw101_2; first | rwa [add_block] at this | exact this) GW104.out)) | (show (Addr.add _ _).block ≠ _; rw [add_block]; exact Nat.ne_of_lt (Nat.lt_of_lt_of_le (by have := World.block_lt_of_cell? _ _ hw101_2; first | rwa [add_block] at this | exact this) GW104.out)) | (dsimp only; exact Nat.ne_of_lt (Nat.lt_of_lt_of_le (by have := World.block_lt_of_cell? _ _ hw101_2; first | rwa [add_block] at this | exact this) GW104.out))) _).trans (((cell_far (p := ⟨gb104, _, none⟩) (by first | exact Nat.ne_of_lt (Nat.lt_of_lt_of_le (by have := World.block_lt_of_cell? _ _ hw101_2; first | rwa [add_block] at this | exact this) GW104.out) | (rw [add_block]; exact Nat.ne_of_lt (Nat.lt_of_lt_of_le (by have := World.block_lt_of_cell? _ _ hw101_2; first | rwa [add_block] at this | exact this) GW104.out)) | (show (Addr.add _ _).block ≠ _; rw [add_block]; exact Nat.ne_of_lt (Nat.lt_of_lt_of_le (by have := World.block_lt_of_cell? _ _ hw101_2; first | rwa [add_block] at this | exact this) GW104.out)) | (dsimp only; exact Nat.ne_of_lt (Nat.lt_of_lt_of_le (by have := World.block_lt_of_cell? _ _ hw101_2; first | rwa [add_block] at this | exact this) GW104.out))) _).trans (((cell_far (p := ⟨gb104, _, none⟩) (by first | exact Nat.ne_of_lt (Nat.lt_of_lt_of_le (by have := World.block_lt_of_cell? _ _ hw101_2; first | rwa [add_block] at this | exact this) GW104.out) | (rw [add_block]; exact Nat.ne_of_lt (Nat.lt_of_lt_of_le (by have := World.block_lt_of_cell? _ _ hw101_2; first | rwa [add_block] at this | exact this) GW104.out)) | (show (Addr.add _ _).block ≠ _; rw [add_block]; exact Nat.ne_of_lt (Nat.lt_of_lt_of_le (by have := World.block_lt_of_cell? _ _ hw101_2; first | rwa [add_block] at this | exact this) GW104.out)) | (dsimp only; exact Nat.ne_of_lt (Nat.lt_of_lt_of_le (by have := World.block_lt_of_cell? _ _ hw101_2; first | rwa [add_block] at this | exact this) GW104.out))) _).trans (hHeld.2.2.1)))))), ((cell_far (p := ⟨gb104, _, none⟩) (by first | exact Nat.ne_of_lt (Nat.lt_of_lt_of_le (by have := World.block_lt_of_cell? _ _ hw102_0; first | rwa [add_block] at this | exact this) GW104.out) | (rw [add_block]; exact Nat.ne_of_lt (Nat.lt_of_lt_of_le (by have := World.block_lt_of_cell? _ _ hw102_0; first | rwa [add_block] at this | exact this) GW104.out)) | (show (Addr.add _ _).block ≠ _; rw [add_block]; exact Nat.ne_of_lt (Nat.lt_of_lt_of_le (by have := World.block_lt_of_cell? _ _ hw102_0; first | rwa [add_block] at this | exact this) GW104.out)) | (dsimp only; exact Nat.ne_of_lt (Nat.lt_of_lt_of_le (by have := World.block_lt_of_cell? _ _ hw102_0; first | rwa [add_block] at this | exact this) GW104.out))) _).trans (((cell_far (p := ⟨gb104, _, none⟩) (by first | exact Nat.ne_of_lt (Nat.lt_of_lt_of_le (by have := World.block_lt_of_cell? _ _ hw102_0; first | rwa [add_block] at this | exact this) GW104.out) | (rw [add_block]; exact Nat.ne_of_lt (Nat.lt_of_lt_of_le (by have := World.block_lt_of_cell? _ _ hw102_0; first | rwa [add_block] at this | exact this) GW104.out)) | (show (Addr.add _ _).block ≠ _; rw [add_block]; exact Nat.ne_of_lt (Nat.lt_of_lt_of_le (by have := World.block_lt_of_cell? _ _ hw102_0; first | rwa [add_block] at this | exact this) GW104.out)) | (dsimp only; exact Nat.ne_of_lt (Nat.lt_of_lt_of_le (by have := World.block_lt_of_cell? _ _ hw102_0; first | rwa [add_block] at this | exact this) GW104.out))) _).trans (((cell_far (p := ⟨gb104, _, none⟩) (by first | exact Nat.ne_of_lt (Nat.lt_of_lt_of_le (by have := World.block_lt_of_cell? _ _ hw102_0; first | rwa [add_block] at this | exact this) GW104.out) | (rw [add_block]; exact Nat.ne_of_lt (Nat.lt_of_lt_of_le (by have := World.block_lt_of_cell? _ _ hw102_0; first | rwa [add_block] at this | exact this) GW104.out)) | (show (Addr.add _ _).block ≠ _; rw [add_block]; exact Nat.ne_of_lt (Nat.lt_of_lt_of_le (by have := World.block_lt_of_cell? _ _ hw102_0; first | rwa [add_block] at this | exact this) GW104.out)) | (dsimp only; exact Nat.ne_of_lt (Nat.lt_of_lt_of_le (by have := World.block_lt_of_cell? _ _ hw102_0; first | rwa [add_block] at this | exact this) GW104.out))) _).trans (hHeld.2.2.2.1)))))), ((cell_far (p := ⟨gb104, _, none⟩) (by first | exact Nat.ne_of_lt (Nat.lt_of_lt_of_le (by have := World.block_lt_of_cell? _ _ hw102_1; first | rwa [add_block] at this | exact this) GW104.out) | (rw [add_block]; exact Nat.ne_of_lt (Nat.lt_of_lt_of_le (by have := World.block_lt_of_cell? _ _ hw102_1; first | rwa [add_block] at this | exact this) GW104.out)) | (show (Addr.add _ _).block ≠ _; rw [add_block]; exact Nat.ne_of_lt (Nat.lt_of_lt_of_le (by have := World.block_lt_of_cell? _ _ hw102_1; first | rwa [add_block] at this | exact this) GW104.out)) | (dsimp only; exact Nat.ne_of_lt (Nat.lt_of_lt_of_le (by have := World.block_lt_of_cell? _ _ hw102_1; first | rwa [add_block] at this | exact this) GW104.out))) _).trans (((cell_far (p := ⟨gb104, _, none⟩) (by first | exact Nat.ne_of_lt (Nat.lt_of_lt_of_le (by have := World.block_lt_of_cell? _ _ hw102_1; first | rwa [add_block] at this | exact this) GW104.out) | (rw [add_block]; exact Nat.ne_of_lt (Nat.lt_of_lt_of_le (by have := World.block_lt_of_cell? _ _ hw102_1; first | rwa [add_block] at this | exact this) GW104.out)) | (show (Addr.add _ _).block ≠ _; rw [add_block]; exact Nat.ne_of_lt (Nat.lt_of_lt_of_le (by have := World.block_lt_of_cell? _ _ hw102_1; first | rwa [add_block] at this | exact this) GW104.out)) | (dsimp only; exact Nat.ne_of_lt (Nat.lt_of_lt_of_le (by have := World.block_lt_of_cell? _ _ hw102_1; first | rwa [add_block] at this | exact this) GW104.out))) _).trans (((cell_far (p := ⟨gb104, _, none⟩) (by first | exact Nat.ne_of_lt (Nat.lt_of_lt_of_le (by have := World.block_lt_of_cell? _ _ hw102_1; first | rwa [add_block] at this | exact this) GW104.out) | (rw [add_block]; exact Nat.ne_of_lt (Nat.lt_of_lt_of_le (by have := World.block_lt_of_cell? _ _ hw102_1; first | rwa [add_block] at this | exact this) GW104.out)) | (show (Addr.add _ _).block ≠ _; rw [add_block]; exact Nat.ne_of_lt (Nat.lt_of_lt_of_le (by have := World.block_lt_of_cell? _ _ hw102_1; first | rwa [add_block] at this | exact this) GW104.out)) | (dsimp only; exact Nat.ne_of_lt (Nat.lt_of_lt_of_le (by have := World.block_lt_of_cell? _ _ hw102_1; first | rwa [add_block] at this | exact this) GW104.out))) _).trans (hHeld.2.2.2.2.1)))))), ((cell_far (p := ⟨gb104, _, none⟩) (by first | exact Nat.ne_of_lt (Nat.lt_of_lt_of_le (by have := World.block_lt_of_cell? _ _ hw102_2; first | rwa [add_block] at this | exact this) GW104.out) | (rw [add_block]; exact Nat.ne_of_lt (Nat.lt_of_lt_of_le (by have := World.block_lt_of_cell? _ _ hw102_2; first | rwa [add_block] at this | exact this) GW104.out)) | (show (Addr.add _ _).block ≠ _; rw [add_block]; exact Nat.ne_of_lt (Nat.lt_of_lt_of_le (by have := World.block_lt_of_cell? _ _ hw102_2; first | rwa [add_block] at this | exact this) GW104.out)) | (dsimp only; exact Nat.ne_of_lt (Nat.lt_of_lt_of_le (by have := World.block_lt_of_cell? _ _ hw102_2; first | rwa [add_block] at this | exact this) GW104.out))) _).trans (((cell_far (p := ⟨gb104, _, none⟩) (by first | exact Nat.ne_of_lt (Nat.lt_of_lt_of_le (by have := World.block_lt_of_cell? _ _ hw102_2; first | rwa [add_block] at this | exact this) GW104.out) | (rw [add_block]; exact Nat.ne_of_lt (Nat.lt_of_lt_of_le (by have := World.block_lt_of_cell? _ _ hw102_2; first | rwa [add_block] at this | exact this) GW104.out)) | (show (Addr.add _ _).block ≠ _; rw [add_block]; exact Nat.ne_of_lt (Nat.lt_of_lt_of_le (by have := World.block_lt_of_cell? _ _ hw102_2; first | rwa [add_block] at this | exact this) GW104.out)) | (dsimp only; exact Nat.ne_of_lt (Nat.lt_of_lt_of_le (by have := World.block_lt_of_cell? _ _ hw102_2; first | rwa [add_block] at this | exact this) GW104.out))) _).trans (((cell_far (p := ⟨gb104, _, none⟩) (by first | exact Nat.ne_of_lt (Nat.lt_of_lt_of_le (by have := World.block_lt_of_cell? _ _ hw102_2; first | rwa [add_block] at this | exact this) GW104.out) | (rw [add_block]; exact Nat.ne_of_lt (Nat.lt_of_lt_of_le (by have := World.block_lt_of_cell? _ _ hw102_2; first | rwa [add_block] at this | exact this) GW104.out)) | (show (Addr.add _ _).block ≠ _; rw [add_block]; exact Nat.ne_of_lt (Nat.lt_of_lt_of_le (by have := World.block_lt_of_cell? _ _ hw102_2; first | rwa [add_block] at this | exact this) GW104.out)) | (dsimp only; exact Nat.ne_of_lt (Nat.lt_of_lt_of_le (by have := World.block_lt_of_cell? _ _ hw102_2; first | rwa [add_block] at this | exact this) GW104.out))) _).trans (hHeld.2.2.2.2.2))))))⟩ (fun hHeld => ?_)
         clear hK K
         refine done_ (done_of HT_.out (by kernel_rfl)) ?_
         go_upto_region 5 with (fail)
         go_cut [46] (fun v46 wc => ∃ (kq : Nat) (x46_8 : Bool), v46 = .bool x46_8 ∧ Aside0 (tidepoleref30_Compare.j2 kq l0 l1 x5_1 x46_8 ((rd_T59 l0 x5_1).f0) ((rd_T59 l0 x5_1).f1) ((rd_T59 l0 x5_1).f2) ((rd_T59 l1 x5_1).f0) ((rd_T59 l1 x5_1).f1) ((rd_T59 l1 x5_1).f2) = some r) ∧ Aside0 (kq ≤ kj2) ∧ Aside0 (wc.heap[gb103]? = some (.cells #[.int .i64 ((rd_T59 l0 x5_1).f0), .string ((rd_T59 l0 x5_1).f1), .string ((rd_T59 l0 x5_1).f2)] 59 (0, 0))) ∧ Aside0 (wc.heap[gb104]? = some (.cells #[.int .i64 ((rd_T59 l1 x5_1).f0), .string ((rd_T59 l1 x5_1).f1), .string ((rd_T59 l1 x5_1).f2)] 59 (0, 0))) ∧ Aside0 (Below w.heap.size w wc))
         case first =>
          have H := HC9.out
          clear HC9
          by_cases c20 : (Op.bytesLess (((rd_T59 l0 x5_1).f1).toList) (((rd_T59 l1 x5_1).f1).toList)) = true
          ·rw [if_pos c20] at H
           have c20b0 : (Op.bytesLess (((rd_T59 l0 x5_1).f1).toList) (((rd_T59 l1 x5_1).f1).toList)) = true := c20
           clear c20
           (first | rw [c20b0] | (simp only [i64_w, i32_w]; rw [c20b0]) | skip)
           have H' := Aside0.mk H
           clear H
           have hnb21 := NB103_104.out
           have hnc21 := NB104_103.out
           have hcz22_0 : w13.cell? ⟨gb103, 0, none⟩ = some (.int .i64 0) := (blk_cell BK103.out 0).trans rfl
           have hcz22_1 : w13.cell? ⟨gb103, 1, none⟩ = some (.string (⟨#[]⟩ : ByteArray)) := (blk_cell BK103.out 1).trans rfl
           have hcz22_2 : w13.cell? ⟨gb103, 2, none⟩ = some (.string (⟨#[]⟩ : ByteArray)) := (blk_cell BK103.out 2).trans rfl
           have hfz22_0 := blk_frozen BK103.out 0
           have hfz22_1 := blk_frozen BK103.out 1
           have hfz22_2 := blk_frozen BK103.out 2
           have hcz23_0 : w13.cell? ⟨gb104, 0, none⟩ = some (.int .i64 0) := (blk_cell BK104.out 0).trans rfl
           have hcz23_1 : w13.cell? ⟨gb104, 1, none⟩ = some (.string (⟨#[]⟩ : ByteArray)) := (blk_cell BK104.out 1).trans rfl
           have hcz23_2 : w13.cell? ⟨gb104, 2, none⟩ = some (.string (⟨#[]⟩ : ByteArray)) := (blk_cell BK104.out 2).trans rfl
           have hfz23_0 := blk_frozen BK104.out 0
           have hfz23_1 := blk_frozen BK104.out 1
           have hfz23_2 := blk_frozen BK104.out 2
           go_wp2
           go_meet
           case rel => exact ⟨_, (true), (by first | rfl | (simp; done) | (simp [*]; done)), H', ⟨by have := HK1.out; have := HJ2.out; first | omega | exact Nat.le_refl _⟩, ⟨by (with_reducible repeat (first | refine blk_drewN ?_ _ | refine blk_drew ?_ | refine blk_alloc ?_ _)); refine blk_far ?_ NB103_104.out _; (with_reducible repeat (first | refine blk_drewN ?_ _ | refine blk_drew ?_ | refine blk_alloc ?_ _)); refine blk_far ?_ NB103_104.out _; (with_reducible repeat (first | refine blk_drewN ?_ _ | refine blk_drew ?_ | refine blk_alloc ?_ _)); refine blk_far ?_ NB103_104.out _; (with_reducible repeat (first | refine blk_drewN ?_ _ | refine blk_drew ?_ | refine blk_alloc ?_ _)); refine blk_put (cs := #[.int .i64 ((rd_T59 l0 x5_1).f0), .string ((rd_T59 l0 x5_1).f1), .string (⟨#[]⟩ : ByteArray)]) ?_ 2 _ rfl; (with_reducible repeat (first | refine blk_drewN ?_ _ | refine blk_drew ?_ | refine blk_alloc ?_ _)); refine blk_put (cs := #[.int .i64 ((rd_T59 l0 x5_1).f0), .string (⟨#[]⟩ : ByteArray), .string (⟨#[]⟩ : ByteArray)]) ?_ 1 _ rfl; (with_reducible repeat (first | refine blk_drewN ?_ _ | refine blk_drew ?_ | refine blk_alloc ?_ _)); refine blk_put (cs := #[.int .i64 0, .string (⟨#[]⟩ : ByteArray), .string (⟨#[]⟩ : ByteArray)]) ?_ 0 _ rfl; (with_reducible repeat (first | refine blk_drewN ?_ _ | refine blk_drew ?_ | refine blk_alloc ?_ _)); exact BK103.out⟩, ⟨by (with_reducible repeat (first | refine blk_drewN ?_ _ | refine blk_drew ?_ | refine blk_alloc ?_ _)); refine blk_put (cs := #[.int .i64 ((rd_T59 l1 x5_1).f0), .string ((rd_T59 l1 x5_1).f1), .string (⟨#[]⟩ : ByteArray)]) ?_ 2 _ rfl; (with_reducible repeat (first | refine blk_drewN ?_ _ | refine blk_drew ?_ | refine blk_alloc ?_ _)); refine blk_put (cs := #[.int .i64 ((rd_T59 l1 x5_1).f0), .string (⟨#[]⟩ : ByteArray), .string (⟨#[]⟩ : ByteArray)]) ?_ 1 _ rfl; (with_reducible repeat (first | refine blk_drewN ?_ _ | refine blk_drew ?_ | refine blk_alloc ?_ _)); refine blk_put (cs := #[.int .i64 0, .string (⟨#[]⟩ : ByteArray), .string (⟨#[]⟩ : ByteArray)]) ?_ 0 _ rfl; (with_reducible repeat (first | refine blk_drewN ?_ _ | refine blk_drew ?_ | refine blk_alloc ?_ _)); refine blk_far ?_ NB104_103.out _; (with_reducible repeat (first | refine blk_drewN ?_ _ | refine blk_drew ?_ | refine blk_alloc ?_ _)); refine blk_far ?_ NB104_103.out _; (with_reducible repeat (first | refine blk_drewN ?_ _ | refine blk_drew ?_ | refine blk_alloc ?_ _)); refine blk_far ?_ NB104_103.out _; (with_reducible repeat (first | refine blk_drewN ?_ _ | refine blk_drew ?_ | refine blk_alloc ?_ _)); exact BK104.out⟩, ⟨by repeat (first | (with_reducible first | exact HB.out | apply below_alloc | apply pw_below_drewN | apply below_drew1 | refine below_set ?_ GE103.out | refine below_set ?_ GE104.out) | exact HB.out)⟩⟩
          ·rw [if_neg c20] at H
           have c20b0 : (Op.bytesLess (((rd_T59 l0 x5_1).f1).toList) (((rd_T59 l1 x5_1).f1).toList)) = false := by simpa using c20
           clear c20
           (first | rw [c20b0] | (simp only [i64_w, i32_w]; rw [c20b0]) | skip)
           by_cases c24 : ((rd_T59 l0 x5_1).f1).toList = ((rd_T59 l1 x5_1).f1).toList
           ·rw [if_pos c24] at H
            have c24b0 : (((rd_T59 l0 x5_1).f1).toList == ((rd_T59 l1 x5_1).f1).toList) = true := beq_iff_eq.mpr c24
            have c24b1 : (((rd_T59 l0 x5_1).f1).toList != ((rd_T59 l1 x5_1).f1).toList) = false := bne_eq_false_iff_eq.mpr c24
            clear c24
            have H' := Aside0.mk H
            clear H
            have hnb25 := NB103_104.out
            have hnc25 := NB104_103.out
            have hcz26_0 : w13.cell? ⟨gb103, 0, none⟩ = some (.int .i64 0) := (blk_cell BK103.out 0).trans rfl
            have hcz26_1 : w13.cell? ⟨gb103, 1, none⟩ = some (.string (⟨#[]⟩ : ByteArray)) := (blk_cell BK103.out 1).trans rfl
            have hcz26_2 : w13.cell? ⟨gb103, 2, none⟩ = some (.string (⟨#[]⟩ : ByteArray)) := (blk_cell BK103.out 2).trans rfl
            have hfz26_0 := blk_frozen BK103.out 0
            have hfz26_1 := blk_frozen BK103.out 1
            have hfz26_2 := blk_frozen BK103.out 2
            have hcz27_0 : w13.cell? ⟨gb104, 0, none⟩ = some (.int .i64 0) := (blk_cell BK104.out 0).trans rfl
            have hcz27_1 : w13.cell? ⟨gb104, 1, none⟩ = some (.string (⟨#[]⟩ : ByteArray)) := (blk_cell BK104.out 1).trans rfl
            have hcz27_2 : w13.cell? ⟨gb104, 2, none⟩ = some (.string (⟨#[]⟩ : ByteArray)) := (blk_cell BK104.out 2).trans rfl
            have hfz27_0 := blk_frozen BK104.out 0
            have hfz27_1 := blk_frozen BK104.out 1
            have hfz27_2 := blk_frozen BK104.out 2
            go_wp2
            go_meet
            case rel => exact ⟨_, ((Op.bytesLess (((rd_T59 l0 x5_1).f2).toList) (((rd_T59 l1 x5_1).f2).toList))), (by first | rfl | (simp; done) | (simp [*]; done)), H', ⟨by have := HK1.out; have := HJ2.out; first | omega | exact Nat.le_refl _⟩, ⟨by (with_reducible repeat (first | refine blk_drewN ?_ _ | refine blk_drew ?_ | refine blk_alloc ?_ _)); refine blk_far ?_ NB103_104.out _; (with_reducible repeat (first | refine blk_drewN ?_ _ | refine blk_drew ?_ | refine blk_alloc ?_ _)); refine blk_far ?_ NB103_104.out _; (with_reducible repeat (first | refine blk_drewN ?_ _ | refine blk_drew ?_ | refine blk_alloc ?_ _)); refine blk_far ?_ NB103_104.out _; (with_reducible repeat (first | refine blk_drewN ?_ _ | refine blk_drew ?_ | refine blk_alloc ?_ _)); refine blk_put (cs := #[.int .i64 ((rd_T59 l0 x5_1).f0), .string ((rd_T59 l0 x5_1).f1), .string (⟨#[]⟩ : ByteArray)]) ?_ 2 _ rfl; (with_reducible repeat (first | refine blk_drewN ?_ _ | refine blk_drew ?_ | refine blk_alloc ?_ _)); refine blk_put (cs := #[.int .i64 ((rd_T59 l0 x5_1).f0), .string (⟨#[]⟩ : ByteArray), .string (⟨#[]⟩ : ByteArray)]) ?_ 1 _ rfl; (with_reducible repeat (first | refine blk_drewN ?_ _ | refine blk_drew ?_ | refine blk_alloc ?_ _)); refine blk_put (cs := #[.int .i64 0, .string (⟨#[]⟩ : ByteArray), .string (⟨#[]⟩ : ByteArray)]) ?_ 0 _ rfl; (with_reducible repeat (first | refine blk_drewN ?_ _ | refine blk_drew ?_ | refine blk_alloc ?_ _)); exact BK103.out⟩, ⟨by (with_reducible repeat (first | refine blk_drewN ?_ _ | refine blk_drew ?_ | refine blk_alloc ?_ _)); refine blk_put (cs := #[.int .i64 ((rd_T59 l1 x5_1).f0), .string ((rd_T59 l1 x5_1).f1), .string (⟨#[]⟩ : ByteArray)]) ?_ 2 _ rfl; (with_reducible repeat (first | refine blk_drewN ?_ _ | refine blk_drew ?_ | refine blk_alloc ?_ _)); refine blk_put (cs := #[.int .i64 ((rd_T59 l1 x5_1).f0), .string (⟨#[]⟩ : ByteArray), .string (⟨#[]⟩ : ByteArray)]) ?_ 1 _ rfl; (with_reducible repeat (first | refine blk_drewN ?_ _ | refine blk_drew ?_ | refine blk_alloc ?_ _)); refine blk_put (cs := #[.int .i64 0, .string (⟨#[]⟩ : ByteArray), .string (⟨#[]⟩ : ByteArray)]) ?_ 0 _ rfl; (with_reducible repeat (first | refine blk_drewN ?_ _ | refine blk_drew ?_ | refine blk_alloc ?_ _)); refine blk_far ?_ NB104_103.out _; (with_reducible repeat (first | refine blk_drewN ?_ _ | refine blk_drew ?_ | refine blk_alloc ?_ _)); refine blk_far ?_ NB104_103.out _; (with_reducible repeat (first | refine blk_drewN ?_ _ | refine blk_drew ?_ | refine blk_alloc ?_ _)); refine blk_far ?_ NB104_103.out _; (with_reducible repeat (first | refine blk_drewN ?_ _ | refine blk_drew ?_ | refine blk_alloc ?_ _)); exact BK104.out⟩, ⟨by repeat (first | (with_reducible first | exact HB.out | apply below_alloc | apply pw_below_drewN | apply below_drew1 | refine below_set ?_ GE103.out | refine below_set ?_ GE104.out) | exact HB.out)⟩⟩
           ·rw [if_neg c24] at H
            have c24b0 : (((rd_T59 l0 x5_1).f1).toList == ((rd_T59 l1 x5_1).f1).toList) = false := beq_eq_false_iff_ne.mpr c24
            have c24b1 : (((rd_T59 l0 x5_1).f1).toList != ((rd_T59 l1 x5_1).f1).toList) = true := bne_iff_ne.mpr c24
            have H' := Aside0.mk H
            clear H
            have hnb28 := NB103_104.out
            have hnc28 := NB104_103.out
            have hcz29_0 : w13.cell? ⟨gb103, 0, none⟩ = some (.int .i64 0) := (blk_cell BK103.out 0).trans rfl
            have hcz29_1 : w13.cell? ⟨gb103, 1, none⟩ = some (.string (⟨#[]⟩ : ByteArray)) := (blk_cell BK103.out 1).trans rfl
            have hcz29_2 : w13.cell? ⟨gb103, 2, none⟩ = some (.string (⟨#[]⟩ : ByteArray)) := (blk_cell BK103.out 2).trans rfl
            have hfz29_0 := blk_frozen BK103.out 0
            have hfz29_1 := blk_frozen BK103.out 1
            have hfz29_2 := blk_frozen BK103.out 2
            have hcz30_0 : w13.cell? ⟨gb104, 0, none⟩ = some (.int .i64 0) := (blk_cell BK104.out 0).trans rfl
            have hcz30_1 : w13.cell? ⟨gb104, 1, none⟩ = some (.string (⟨#[]⟩ : ByteArray)) := (blk_cell BK104.out 1).trans rfl
            have hcz30_2 : w13.cell? ⟨gb104, 2, none⟩ = some (.string (⟨#[]⟩ : ByteArray)) := (blk_cell BK104.out 2).trans rfl
            have hfz30_0 := blk_frozen BK104.out 0
            have hfz30_1 := blk_frozen BK104.out 1
            have hfz30_2 := blk_frozen BK104.out 2
            go_wp2
            go_meet
            case rel => exact ⟨_, (false), (by first | rfl | (simp; done) | (simp [*]; done)), H', ⟨by have := HK1.out; have := HJ2.out; first | omega | exact Nat.le_refl _⟩, ⟨by (with_reducible repeat (first | refine blk_drewN ?_ _ | refine blk_drew ?_ | refine blk_alloc ?_ _)); refine blk_far ?_ NB103_104.out _; (with_reducible repeat (first | refine blk_drewN ?_ _ | refine blk_drew ?_ | refine blk_alloc ?_ _)); refine blk_far ?_ NB103_104.out _; (with_reducible repeat (first | refine blk_drewN ?_ _ | refine blk_drew ?_ | refine blk_alloc ?_ _)); refine blk_far ?_ NB103_104.out _; (with_reducible repeat (first | refine blk_drewN ?_ _ | refine blk_drew ?_ | refine blk_alloc ?_ _)); refine blk_put (cs := #[.int .i64 ((rd_T59 l0 x5_1).f0), .string ((rd_T59 l0 x5_1).f1), .string (⟨#[]⟩ : ByteArray)]) ?_ 2 _ rfl; (with_reducible repeat (first | refine blk_drewN ?_ _ | refine blk_drew ?_ | refine blk_alloc ?_ _)); refine blk_put (cs := #[.int .i64 ((rd_T59 l0 x5_1).f0), .string (⟨#[]⟩ : ByteArray), .string (⟨#[]⟩ : ByteArray)]) ?_ 1 _ rfl; (with_reducible repeat (first | refine blk_drewN ?_ _ | refine blk_drew ?_ | refine blk_alloc ?_ _)); refine blk_put (cs := #[.int .i64 0, .string (⟨#[]⟩ : ByteArray), .string (⟨#[]⟩ : ByteArray)]) ?_ 0 _ rfl; (with_reducible repeat (first | refine blk_drewN ?_ _ | refine blk_drew ?_ | refine blk_alloc ?_ _)); exact BK103.out⟩, ⟨by (with_reducible repeat (first | refine blk_drewN ?_ _ | refine blk_drew ?_ | refine blk_alloc ?_ _)); refine blk_put (cs := #[.int .i64 ((rd_T59 l1 x5_1).f0), .string ((rd_T59 l1 x5_1).f1), .string (⟨#[]⟩ : ByteArray)]) ?_ 2 _ rfl; (with_reducible repeat (first | refine blk_drewN ?_ _ | refine blk_drew ?_ | refine blk_alloc ?_ _)); refine blk_put (cs := #[.int .i64 ((rd_T59 l1 x5_1).f0), .string (⟨#[]⟩ : ByteArray), .string (⟨#[]⟩ : ByteArray)]) ?_ 1 _ rfl; (with_reducible repeat (first | refine blk_drewN ?_ _ | refine blk_drew ?_ | refine blk_alloc ?_ _)); refine blk_put (cs := #[.int .i64 0, .string (⟨#[]⟩ : ByteArray), .string (⟨#[]⟩ : ByteArray)]) ?_ 0 _ rfl; (with_reducible repeat (first | refine blk_drewN ?_ _ | refine blk_drew ?_ | refine blk_alloc ?_ _)); refine blk_far ?_ NB104_103.out _; (with_reducible repeat (first | refine blk_drewN ?_ _ | refine blk_drew ?_ | refine blk_alloc ?_ _)); refine blk_far ?_ NB104_103.out _; (with_reducible repeat (first | refine blk_drewN ?_ _ | refine blk_drew ?_ | refine blk_alloc ?_ _)); refine blk_far ?_ NB104_103.out _; (with_reducible repeat (first | refine blk_drewN ?_ _ | refine blk_drew ?_ | refine blk_alloc ?_ _)); exact BK104.out⟩, ⟨by repeat (first | (with_reducible first | exact HB.out | apply below_alloc | apply pw_below_drewN | apply below_drew1 | refine below_set ?_ GE103.out | refine below_set ?_ GE104.out) | exact HB.out)⟩⟩
         case rest =>
          clear HC9
          try clear c1
          try clear p1
          try clear q1
          try clear hx1
          try clear c2
          try clear p2
          try clear c4
          try clear c4b0
          try clear c5
          try clear c6
          try clear c6b0
          try clear c7
          try clear c7b0
          try clear c8
          try clear c8b0
          try clear p10
          try clear q10
          try clear hx10
          try clear c20
          try clear c20b0
          try clear c21
          try clear c24
          try clear c24b0
          try clear c24b1
          try clear c25
          try clear c28
          try clear hcz22_0
          try clear hcz22_1
          try clear hcz22_2
          try clear hcz23_0
          try clear hcz23_1
          try clear hcz23_2
          try clear hcz26_0
          try clear hcz26_1
          try clear hcz26_2
          try clear hcz27_0
          try clear hcz27_1
          try clear hcz27_2
          try clear hcz29_0
          try clear hcz29_1
          try clear hcz29_2
          try clear hcz30_0
          try clear hcz30_1
          try clear hcz30_2
          try clear hfz22_0
          try clear hfz22_1
          try clear hfz22_2
          try clear hfz23_0
          try clear hfz23_1
          try clear hfz23_2
          try clear hfz26_0
          try clear hfz26_1
          try clear hfz26_2
          try clear hfz27_0
          try clear hfz27_1
          try clear hfz27_2
          try clear hfz29_0
          try clear hfz29_1
          try clear hfz29_2
          try clear hfz30_0
          try clear hfz30_1
          try clear hfz30_2
          try clear hx101_0
          try clear hx101_1
          try clear hx101_2
          try clear hx102_0
          try clear hx102_1
          try clear hx102_2
          try clear p101
          try clear p102
          try clear p2
          try clear q101
          try clear q102
          obtain ⟨kq, x46_8, rfl, HA, HJ8, BK103, BK104, HB⟩ := hcut
          cases kq with
          | zero => exact absurd HA.out (by simp [tidepoleref30_Compare.j2])
          | succ kj8 =>
           have H := HA.out
           clear HA
           simp only [tidepoleref30_Compare.j2] at H
           by_cases c31 : x46_8 = true
           ·subst c31
            have H1 : (some (-1)) = some r := by rw [if_pos rfl] at H; exact H
            clear H
            have H := H1
            clear H1
            obtain rfl := Option.some.inj H
            go_wp2
            go_ret
            exact ⟨by first | rfl | (simp [errW_none, errW_some] <;> rfl) | (simp [*, errW_none, errW_some] <;> rfl), by repeat (first | (with_reducible first | exact HB.out | apply below_alloc | apply pw_below_drewN | apply below_drew1 | refine below_set ?_ GE103.out | refine below_set ?_ GE104.out) | exact HB.out)⟩
           ·replace c31 := Bool.eq_false_iff.mpr c31
            subst c31
            have H1 : (if ((rd_T59 l0 x5_1).f1).toList = ((rd_T59 l1 x5_1).f1).toList then (if ((rd_T59 l0 x5_1).f2).toList = ((rd_T59 l1 x5_1).f2).toList then (tidepoleref30_Compare.l0 kj8 l0 l1 (wrap64 (x5_1 + 1))) else (some 1)) else (some 1)) = some r := by rw [if_neg (show ¬ (false = true) by decide)] at H; exact H
            clear H
            have H := H1
            clear H1
            by_cases c32 : ((rd_T59 l0 x5_1).f1).toList = ((rd_T59 l1 x5_1).f1).toList
            ·rw [if_pos c32] at H
             have c32b0 : (((rd_T59 l0 x5_1).f1).toList == ((rd_T59 l1 x5_1).f1).toList) = true := beq_iff_eq.mpr c32
             have c32b1 : (((rd_T59 l0 x5_1).f1).toList != ((rd_T59 l1 x5_1).f1).toList) = false := bne_eq_false_iff_eq.mpr c32
             clear c32
             by_cases c33 : ((rd_T59 l0 x5_1).f2).toList = ((rd_T59 l1 x5_1).f2).toList
             ·rw [if_pos c33] at H
              have c33b0 : (((rd_T59 l0 x5_1).f2).toList == ((rd_T59 l1 x5_1).f2).toList) = true := beq_iff_eq.mpr c33
              have c33b1 : (((rd_T59 l0 x5_1).f2).toList != ((rd_T59 l1 x5_1).f2).toList) = false := bne_eq_false_iff_eq.mpr c33
              clear c33
              have H' := Aside0.mk H
              clear H
              have hnb34 := NB103_104.out
              have hnc34 := NB104_103.out
              have hcz35_0 : wc.cell? ⟨gb103, 0, none⟩ = some (.int .i64 ((rd_T59 l0 x5_1).f0)) := (blk_cell BK103.out 0).trans rfl
              have hcz35_1 : wc.cell? ⟨gb103, 1, none⟩ = some (.string ((rd_T59 l0 x5_1).f1)) := (blk_cell BK103.out 1).trans rfl
              have hcz35_2 : wc.cell? ⟨gb103, 2, none⟩ = some (.string ((rd_T59 l0 x5_1).f2)) := (blk_cell BK103.out 2).trans rfl
              have hfz35_0 := blk_frozen BK103.out 0
              have hfz35_1 := blk_frozen BK103.out 1
              have hfz35_2 := blk_frozen BK103.out 2
              have hcz36_0 : wc.cell? ⟨gb104, 0, none⟩ = some (.int .i64 ((rd_T59 l1 x5_1).f0)) := (blk_cell BK104.out 0).trans rfl
              have hcz36_1 : wc.cell? ⟨gb104, 1, none⟩ = some (.string ((rd_T59 l1 x5_1).f1)) := (blk_cell BK104.out 1).trans rfl
              have hcz36_2 : wc.cell? ⟨gb104, 2, none⟩ = some (.string ((rd_T59 l1 x5_1).f2)) := (blk_cell BK104.out 2).trans rfl
              have hfz36_0 := blk_frozen BK104.out 0
              have hfz36_1 := blk_frozen BK104.out 1
              have hfz36_2 := blk_frozen BK104.out 2
              go_wp2
              go_roundg kj8
              case measure => have := HK1.out; have := HJ2.out; have := HJ8.out; omega
              case rel => exact ⟨(wrap64 (x5_1 + 1)), (by first | rfl | (simp; done) | (simp [*]; done)), H', ⟨by have := HK1.out; have := HJ2.out; have := HJ8.out; omega⟩, ⟨by repeat (first | (with_reducible first | exact HB.out | apply below_alloc | apply pw_below_drewN | apply below_drew1 | refine below_set ?_ GE103.out | refine below_set ?_ GE104.out) | exact HB.out)⟩⟩
             ·rw [if_neg c33] at H
              have c33b0 : (((rd_T59 l0 x5_1).f2).toList == ((rd_T59 l1 x5_1).f2).toList) = false := beq_eq_false_iff_ne.mpr c33
              have c33b1 : (((rd_T59 l0 x5_1).f2).toList != ((rd_T59 l1 x5_1).f2).toList) = true := bne_iff_ne.mpr c33
              obtain rfl := Option.some.inj H
              have hnb37 := NB103_104.out
              have hnc37 := NB104_103.out
              have hcz38_0 : wc.cell? ⟨gb103, 0, none⟩ = some (.int .i64 ((rd_T59 l0 x5_1).f0)) := (blk_cell BK103.out 0).trans rfl
              have hcz38_1 : wc.cell? ⟨gb103, 1, none⟩ = some (.string ((rd_T59 l0 x5_1).f1)) := (blk_cell BK103.out 1).trans rfl
              have hcz38_2 : wc.cell? ⟨gb103, 2, none⟩ = some (.string ((rd_T59 l0 x5_1).f2)) := (blk_cell BK103.out 2).trans rfl
              have hfz38_0 := blk_frozen BK103.out 0
              have hfz38_1 := blk_frozen BK103.out 1
              have hfz38_2 := blk_frozen BK103.out 2
              have hcz39_0 : wc.cell? ⟨gb104, 0, none⟩ = some (.int .i64 ((rd_T59 l1 x5_1).f0)) := (blk_cell BK104.out 0).trans rfl
              have hcz39_1 : wc.cell? ⟨gb104, 1, none⟩ = some (.string ((rd_T59 l1 x5_1).f1)) := (blk_cell BK104.out 1).trans rfl
              have hcz39_2 : wc.cell? ⟨gb104, 2, none⟩ = some (.string ((rd_T59 l1 x5_1).f2)) := (blk_cell BK104.out 2).trans rfl
              have hfz39_0 := blk_frozen BK104.out 0
              have hfz39_1 := blk_frozen BK104.out 1
              have hfz39_2 := blk_frozen BK104.out 2
              go_wp2
              go_ret
              exact ⟨by first | rfl | (simp [errW_none, errW_some] <;> rfl) | (simp [*, errW_none, errW_some] <;> rfl), by repeat (first | (with_reducible first | exact HB.out | apply below_alloc | apply pw_below_drewN | apply below_drew1 | refine below_set ?_ GE103.out | refine below_set ?_ GE104.out) | exact HB.out)⟩
            ·rw [if_neg c32] at H
             have c32b0 : (((rd_T59 l0 x5_1).f1).toList == ((rd_T59 l1 x5_1).f1).toList) = false := beq_eq_false_iff_ne.mpr c32
             have c32b1 : (((rd_T59 l0 x5_1).f1).toList != ((rd_T59 l1 x5_1).f1).toList) = true := bne_iff_ne.mpr c32
             obtain rfl := Option.some.inj H
             have hnb40 := NB103_104.out
             have hnc40 := NB104_103.out
             have hcz41_0 : wc.cell? ⟨gb103, 0, none⟩ = some (.int .i64 ((rd_T59 l0 x5_1).f0)) := (blk_cell BK103.out 0).trans rfl
             have hcz41_1 : wc.cell? ⟨gb103, 1, none⟩ = some (.string ((rd_T59 l0 x5_1).f1)) := (blk_cell BK103.out 1).trans rfl
             have hcz41_2 : wc.cell? ⟨gb103, 2, none⟩ = some (.string ((rd_T59 l0 x5_1).f2)) := (blk_cell BK103.out 2).trans rfl
             have hfz41_0 := blk_frozen BK103.out 0
             have hfz41_1 := blk_frozen BK103.out 1
             have hfz41_2 := blk_frozen BK103.out 2
             have hcz42_0 : wc.cell? ⟨gb104, 0, none⟩ = some (.int .i64 ((rd_T59 l1 x5_1).f0)) := (blk_cell BK104.out 0).trans rfl
             have hcz42_1 : wc.cell? ⟨gb104, 1, none⟩ = some (.string ((rd_T59 l1 x5_1).f1)) := (blk_cell BK104.out 1).trans rfl
             have hcz42_2 : wc.cell? ⟨gb104, 2, none⟩ = some (.string ((rd_T59 l1 x5_1).f2)) := (blk_cell BK104.out 2).trans rfl
             have hfz42_0 := blk_frozen BK104.out 0
             have hfz42_1 := blk_frozen BK104.out 1
             have hfz42_2 := blk_frozen BK104.out 2
             go_wp2
             go_ret
             exact ⟨by first | rfl | (simp [errW_none, errW_some] <;> rfl) | (simp [*, errW_none, errW_some] <;> rfl), by repeat (first | (with_reducible first | exact HB.out | apply below_alloc | apply pw_below_drewN | apply below_drew1 | refine below_set ?_ GE103.out | refine below_set ?_ GE104.out) | exact HB.out)⟩
        ·rw [if_neg c8] at H
         exact absurd H (by simp)
       ·rw [if_neg c7] at H
        exact absurd H (by simp)
      ·rw [if_neg c6] at H
       exact absurd H (by simp)
     ·replace c5 := Bool.eq_false_iff.mpr c5
      subst c5
      have H1 : (if (l0.length : Int) < (l1.length : Int) then (some (-1)) else (if (l0.length : Int) > (l1.length : Int) then (some 1) else (some 0))) = some r := by rw [if_neg (show ¬ (false = true) by decide)] at H; exact H
      clear H
      have H := H1
      clear H1
      by_cases c43 : (l0.length : Int) < (l1.length : Int)
      ·rw [if_pos c43] at H
       have c43b0 : decide ((l0.length : Int) < (l1.length : Int)) = true := decide_eq_true c43
       have c43b1 : decide (l0.length < l1.length) = true := decide_eq_true (Int.ofNat_lt.mp c43)
       clear c43
       obtain rfl := Option.some.inj H
       go_wp2
       go_ret
       exact ⟨by first | rfl | (simp [errW_none, errW_some] <;> rfl) | (simp [*, errW_none, errW_some] <;> rfl), by repeat (first | (with_reducible first | exact HB.out | apply below_alloc | apply pw_below_drewN | apply below_drew1) | exact HB.out)⟩
      ·rw [if_neg c43] at H
       have c43b0 : decide ((l0.length : Int) < (l1.length : Int)) = false := decide_eq_false c43
       have c43b1 : decide (l0.length < l1.length) = false := decide_eq_false (fun h => c43 (Int.ofNat_lt.mpr h))
       clear c43
       by_cases c44 : (l0.length : Int) > (l1.length : Int)
       ·rw [if_pos c44] at H
        have c44b0 : decide ((l1.length : Int) < (l0.length : Int)) = true := decide_eq_true c44
        have c44b1 : decide (l1.length < l0.length) = true := decide_eq_true (Int.ofNat_lt.mp c44)
        clear c44
        obtain rfl := Option.some.inj H
        go_wp2
        go_ret
        exact ⟨by first | rfl | (simp [errW_none, errW_some] <;> rfl) | (simp [*, errW_none, errW_some] <;> rfl), by repeat (first | (with_reducible first | exact HB.out | apply below_alloc | apply pw_below_drewN | apply below_drew1) | exact HB.out)⟩
       ·rw [if_neg c44] at H
        have c44b0 : decide ((l1.length : Int) < (l0.length : Int)) = false := decide_eq_false c44
        have c44b1 : decide (l1.length < l0.length) = false := decide_eq_false (fun h => c44 (Int.ofNat_lt.mpr h))
        clear c44
        obtain rfl := Option.some.inj H
        go_wp2
        go_ret
        exact ⟨by first | rfl | (simp [errW_none, errW_some] <;> rfl) | (simp [*, errW_none, errW_some] <;> rfl), by repeat (first | (with_reducible first | exact HB.out | apply below_alloc | apply pw_below_drewN | apply below_drew1) | exact HB.out)⟩
end Go.Proofs.Ytbfiacnmielajaa.P
