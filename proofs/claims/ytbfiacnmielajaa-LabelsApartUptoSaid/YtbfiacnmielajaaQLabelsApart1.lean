/- LabelsApart: the part that this text bears of the proof that the statement answers true for every input. No condition. -/
import Derived.Test.YtbfiacnmielajaaProg
import Derived.Below
import Derived.Deep.Draws
import Derived.Deep.AppendLies
import Derived.Maps.AppendAt
import Derived.OwnWalk
import Derived.Laws.BytesArg
import Derived.Laws.MakeOwn
import Derived.Laws.OwnMore
import Derived.Deep.OwnRows
import Derived.Tactics
import Derived.Lib.ConvBytes
import Derived.Laws.Slices
import Derived.WalkKit
import Derived.KernelRfl
import Derived.RowKit3
import Derived.Deep.LoopGhost
import Derived.Deep.QuietTactic
import Derived.BigQuiet
import Derived.WideLaws
import Derived.Deep.DeepCutAuto
import Derived.Deep.CutBlock
import Derived.Deep.RegionHeld3
import Derived.Laws.Rows
import Derived.Lib.AppendStr
import Derived.ArgAppend
import Derived.Laws.IdiomCopy
import Derived.OrdersHeld
import Derived.Laws.BitsLemmas
import Derived.RowKit
import Derived.Laws.Strings
import Derived.Laws.Cover1
import Derived.Shelf.Lays
import Derived.Shelf.Strings.Builder1
import Derived.Shelf.Strings.OnBuilder
import Derived.DataReads
import Derived.RegionTactic
import Derived.ChangeKeysEq
import Derived.ChangeAlike
import Derived.BigRegion
import Derived.StillTailTactics
import Derived.Shelf.Strings.Search3
import Derived.Shelf.Small.Strs
import Derived.Deep.Slices
import Derived.ChangeArms
import Derived.ProofKit
import Derived.JoinedOf
import Derived.OpenShut
import Derived.ShutString
import Derived.ChangeOld
import Derived.SizedLaws
import Derived.Test.YtbfiacnmielajaaQLabelsApartWWords
import Derived.Test.YtbfiacnmielajaaQLabelsApartWLast
import Derived.Test.YtbfiacnmielajaaQLabelsApartWTab
import Derived.Test.YtbfiacnmielajaaQLabelsApartWFour
import Derived.Test.YtbfiacnmielajaaQLabelsApartWQPut
import Derived.Test.YtbfiacnmielajaaQLabelsApartWApart
import Derived.Test.YtbfiacnmielajaaQLabelsApartWArr
import Derived.Test.YtbfiacnmielajaaQLabelsApartWZeros
import Derived.Test.YtbfiacnmielajaaQLabelsApartWFoot
import Derived.Test.YtbfiacnmielajaaQLabelsApartWKept
import Derived.Test.YtbfiacnmielajaaQLabelsApartWShare
import Derived.Test.YtbfiacnmielajaaQLabelsApartWN
import Derived.Test.YtbfiacnmielajaaQLabelsApartWFootNe
import Derived.Test.YtbfiacnmielajaaQLabelsApartWAt
import Derived.Test.YtbfiacnmielajaaQLabelsApartWEqStruct
import Derived.Test.YtbfiacnmielajaaQLabelsApartWRepsOne
import Derived.Test.YtbfiacnmielajaaQLabelsApartWInv
import Derived.Test.YtbfiacnmielajaaQLabelsApartWInvWords
import Derived.Test.YtbfiacnmielajaaQLabelsApartWGuard
import Derived.Test.YtbfiacnmielajaaQLabelsApartWNEv
import Derived.Test.YtbfiacnmielajaaQLabelsApartWMore
import Derived.Test.YtbfiacnmielajaaRows
import Derived.Test.YtbfiacnmielajaaQLabelsApart0
namespace Go.Proofs.Ytbfiacnmielajaa.P
open Go.RowKit Go.Proofs.YtbfiacnmielajaaW.PrintWords Go.Proofs.YtbfiacnmielajaaW.PrintLast Go.Proofs.YtbfiacnmielajaaW.PrintMore
attribute [local go_sem] max2_int min2_int max_two min_two max_three min_three max_four min_four
set_option linter.unusedVariables false
set_option linter.unusedSimpArgs false
theorem R_okM {W : World} {base : Nat} {ok ok' : Nat → Prop} {v : Value} {l : List S42} (h : Kd.R k42 42 W base ok v l) (hk : ∀ k, v.ownBlock = some k → ok' k) : Kd.R k42 42 W base ok' v l :=
  ⟨hk, h.2.imp_ (fun x cs hx => by rw [k42_openM hx]; exact k42_mkM _ _ _ x)⟩
def allL : Nat → List S42 → ByteArray → Bool → Option (List S42 × ByteArray × Bool)
  | 0, _, _, _ => none
  | d + 1, o, s, bad =>
    if bad = true then some (o, s, bad) else if hp1 s 125 = true then some (o, s, bad) else
    (if o.length = 0 then some (s, bad) else labels_reader_take.f s bad ⟨#[44]⟩).bind fun t =>
    (labels_reader_name.f (t.1.size + 2) t.1 t.2).bind fun n =>
    (labels_reader_sign.f n.2.1 n.2.2).bind fun g =>
    (labels_reader_value.f g.2.1 g.2.2).bind fun v =>
    allL d (o ++ [⟨g.1, n.1, v.1⟩]) v.2.1 (if 16 < o.length + 1 then true else v.2.2)
def labels_reader_all.f (s0_0 : ByteArray) (s0_1 : Bool) : Option (List S42 × ByteArray × Bool) :=
  (labels_reader_take.f s0_0 s0_1 ⟨#[123]⟩).bind fun t => (allL 18 [] t.1 t.2).bind fun v =>
    (labels_reader_take.f v.2.1 v.2.2 ⟨#[125]⟩).bind fun u => some (v.1, u.1, u.2 || !(u.1.toList == []))
set_option maxHeartbeats 16000000 in
set_option maxRecDepth 100000 in
theorem labels_reader_all.calls (g : Nat) (s0_0 : ByteArray) (s0_1 : Bool) (r1 : List S42) (r2 : ByteArray) (r3 : Bool) (w0 w : World) (hI : IsS67 w0 w g s0_0 s0_1) (hB : Below w0.heap.size w0 w) (h : labels_reader_all.f s0_0 s0_1 = some (r1, r2, r3)) :
    Calls Try.prog 33 #[.pointer (some ⟨g, 0, none⟩)] w fun e w' => ∃ v0_ : Value, e = .returned (v0_) ∧ Kd.R k42 42 w' w.heap.size (fun _ => True) v0_ r1 ∧ IsS67 w0 w' g r2 r3 ∧ Below w0.heap.size w0 w' ∧ KeepBut w w' g none := by
  unfold labels_reader_all.f at h
  replace h := Option.bind_eq_some_iff.mp h
  obtain ⟨⟨t1, t2⟩, ht, h⟩ := h
  replace h := Option.bind_eq_some_iff.mp h
  obtain ⟨⟨v1, v2, v3⟩, hv, h⟩ := h
  replace h := Option.bind_eq_some_iff.mp h
  obtain ⟨⟨q1, q2⟩, hq, h⟩ := h
  simp only [Option.some.injEq, Prod.mk.injEq] at h
  obtain ⟨rfl, rfl, h3⟩ := h
  dsimp only at hv hq
  have H3 := Aside0.mk h3
  have HT := Aside0.mk ht
  have HV := Aside0.mk hv
  have HQ := Aside0.mk hq
  have HI0 := Aside0.mk hI
  have HB := Aside0.mk hB
  have HK := Aside0.mk (KeepBut.refl w g none)
  have HG := Aside0.mk hI.lt
  have HW0 := Aside0.mk hB.size
  have hu := Try.underlying42
  clear hI hB ht hv hq h3
  go_enter Try.func33, Try.ntmps33
  go_wp2_with (go_at_call 45; ((with_reducible refine (labels_reader_take.calls g s0_0 s0_1 ⟨#[123]⟩ t1 t2 w0 _ HI0.out HB.out HT.out).mono ?_); rintro e w1 ⟨rfl, hI, hB, hK⟩; (try (replace HO := Aside0.mk (Kd.R_keep HO.out hK (fun k (hk : w.heap.size ≤ k) => by have := HG.out; omega)))); replace HI0 := Aside0.mk hI; replace HB := Aside0.mk hB; replace HK := Aside0.mk (HK.out.trans hK (.inl rfl)); clear hI hB hK; (try clear hc0 hc1 hf0 hf1); have hc0 := cellS67_0 HI0.out.1; have hc1 := cellS67_1 HI0.out.1; have hf0 := blk_frozen HI0.out.1 0; have hf1 := blk_frozen HI0.out.1 1))
  go_loopg [3] 18 (fun gg z3 wr => ∃ (s : ByteArray) (bad : Bool) (o : List S42), Aside0 (o.length + gg = 18) ∧ Aside0 (allL gg o s bad = some (v1, v2, v3)) ∧ Aside0 (IsS67 w0 wr g s bad) ∧ Aside0 (Below w0.heap.size w0 wr) ∧ Aside0 (KeepBut w wr g none) ∧ Aside0 (Kd.R k42 42 wr w.heap.size (fun k => w.heap.size ≤ k) z3 o))
  case atStart => exact ⟨t1, t2, [], ⟨rfl⟩, HV, HI0, HB, HK, ⟨Kd.R_nil _ _ _ _ _⟩⟩
  case round =>
    clear HV HI0 HB HK HT
    obtain ⟨s, bad, o, HL, HV, HI0, HB, HK, HO⟩ := hrel
    have hc0 := cellS67_0 HI0.out.1
    have hc1 := cellS67_1 HI0.out.1
    have hf0 := blk_frozen HI0.out.1 0
    have hf1 := blk_frozen HI0.out.1 1
    have HW : Aside0 (w.heap.size ≤ wr.heap.size) := ⟨HK.out.1⟩
    obtain ⟨A3, c3, rfl, -⟩ := Kd.R_reads HO.out
    cases gk with
    | zero => exact absurd HV.out (by simp [allL])
    | succ d =>
      have h := HV.out
      simp only [allL] at h
      clear HV
      by_cases c0 : bad = true
      · rw [if_pos c0] at h
        subst c0
        simp only [Option.some.injEq, Prod.mk.injEq] at h
        obtain ⟨rfl, rfl, rfl⟩ := h
        by_cases e2 : q2 = true
        · subst e2
          go_wp2_with (first | (go_at_call 45; ((with_reducible refine (labels_reader_take.calls g s true ⟨#[125]⟩ q1 true w0 _ HI0.out HB.out HQ.out).mono ?_); rintro e w1 ⟨rfl, hI, hB, hK⟩; (try (replace HO := Aside0.mk (Kd.R_keep HO.out hK (fun k (hk : w.heap.size ≤ k) => by have := HG.out; omega)))); replace HI0 := Aside0.mk hI; replace HB := Aside0.mk hB; replace HK := Aside0.mk (HK.out.trans hK (.inl rfl)); clear hI hB hK; (try clear hc0 hc1 hf0 hf1); have hc0 := cellS67_0 HI0.out.1; have hc1 := cellS67_1 HI0.out.1; have hf0 := blk_frozen HI0.out.1 0; have hf1 := blk_frozen HI0.out.1 1)))
          go_ret
          refine ⟨_, rfl, Kd.R_mono (Kd.R_keep HO.out ((KeepBut.refl _ _ _).set_ 1 _) (fun k (hk : w.heap.size ≤ k) => by have := HG.out; omega)) (fun _ _ => trivial), ?_, below_set HB.out (IsS67.ge HI0.out), HK.out.set_ 1 _⟩
          have := HI0.out.set_1 true
          rwa [← H3.out]
        · replace e2 := Bool.eq_false_iff.2 e2
          subst e2
          cases hb_ : (q1.toList == []) with
          | true =>
            rw [hb_] at H3
            have hl_ : q1.toList = [] := by simpa using hb_
            have hl2_ : (!q1.toList.isEmpty) = false := by rw [hl_]; rfl
            clear hb_
            go_wp2_with (first | (go_at_call 45; ((with_reducible refine (labels_reader_take.calls g s true ⟨#[125]⟩ q1 false w0 _ HI0.out HB.out HQ.out).mono ?_); rintro e w1 ⟨rfl, hI, hB, hK⟩; (try (replace HO := Aside0.mk (Kd.R_keep HO.out hK (fun k (hk : w.heap.size ≤ k) => by have := HG.out; omega)))); replace HI0 := Aside0.mk hI; replace HB := Aside0.mk hB; replace HK := Aside0.mk (HK.out.trans hK (.inl rfl)); clear hI hB hK; (try clear hc0 hc1 hf0 hf1); have hc0 := cellS67_0 HI0.out.1; have hc1 := cellS67_1 HI0.out.1; have hf0 := blk_frozen HI0.out.1 0; have hf1 := blk_frozen HI0.out.1 1)))
            go_ret
            refine ⟨_, rfl, Kd.R_mono (Kd.R_keep HO.out ((KeepBut.refl _ _ _).set_ 1 _) (fun k (hk : w.heap.size ≤ k) => by have := HG.out; omega)) (fun _ _ => trivial), ?_, below_set HB.out (IsS67.ge HI0.out), HK.out.set_ 1 _⟩
            have := HI0.out.set_1 false
            rwa [← H3.out]
          | false =>
            rw [hb_] at H3
            have hl_ : ¬ q1.toList = [] := by simpa using hb_
            have hl2_ : (!q1.toList.isEmpty) = true := by simp [List.isEmpty_iff, hl_]
            clear hb_
            go_wp2_with (first | (go_at_call 45; ((with_reducible refine (labels_reader_take.calls g s true ⟨#[125]⟩ q1 false w0 _ HI0.out HB.out HQ.out).mono ?_); rintro e w1 ⟨rfl, hI, hB, hK⟩; (try (replace HO := Aside0.mk (Kd.R_keep HO.out hK (fun k (hk : w.heap.size ≤ k) => by have := HG.out; omega)))); replace HI0 := Aside0.mk hI; replace HB := Aside0.mk hB; replace HK := Aside0.mk (HK.out.trans hK (.inl rfl)); clear hI hB hK; (try clear hc0 hc1 hf0 hf1); have hc0 := cellS67_0 HI0.out.1; have hc1 := cellS67_1 HI0.out.1; have hf0 := blk_frozen HI0.out.1 0; have hf1 := blk_frozen HI0.out.1 1)))
            go_ret
            refine ⟨_, rfl, Kd.R_mono (Kd.R_keep HO.out ((KeepBut.refl _ _ _).set_ 1 _) (fun k (hk : w.heap.size ≤ k) => by have := HG.out; omega)) (fun _ _ => trivial), ?_, below_set HB.out (IsS67.ge HI0.out), HK.out.set_ 1 _⟩
            have := HI0.out.set_1 true
            rwa [← H3.out]
      rw [if_neg c0] at h
      replace c0 := Bool.eq_false_iff.2 c0
      subst c0
      by_cases c1 : hp1 s 125 = true
      · rw [if_pos c1] at h
        simp only [Option.some.injEq, Prod.mk.injEq] at h
        obtain ⟨rfl, rfl, rfl⟩ := h
        have P125 : Aside0 (strings_HasPrefix.f s ⟨#[125]⟩ = some true) := ⟨by rw [hasPrefix1]; exact congrArg some c1⟩
        clear c1
        by_cases e2 : q2 = true
        · subst e2
          go_wp2_with (first | (go_at_call 46; (with_reducible refine (strings_HasPrefix.calls s ⟨#[125]⟩ true _ P125.out).mono ?_); rintro e w' ⟨rfl, ⟨nd, rfl⟩⟩; have n0 := Aside0.mk (IsS67.drewN HI0.out nd); have n1 := Aside0.mk (keep_drewN HK.out nd); have n2 := Aside0.mk (pw_below_drewN HB.out nd); have n3 := Aside0.mk (Kd.R_keep HO.out (keep_drewN (KeepBut.refl wr g none) nd) (fun k (hk : w.heap.size ≤ k) => by have := HG.out; omega)); clear HI0 HK HB HO HW hc0 hc1 hf0 hf1; generalize World.drewN wr nd = WA at n0 n1 n2 n3 ⊢; have HI0 := n0; have HK := n1; have HB := n2; have HO := n3; clear n0 n1 n2 n3; (try clear hc0 hc1 hf0 hf1); have hc0 := cellS67_0 HI0.out.1; have hc1 := cellS67_1 HI0.out.1; have hf0 := blk_frozen HI0.out.1 0; have hf1 := blk_frozen HI0.out.1 1) | (go_at_call 45; ((with_reducible refine (labels_reader_take.calls g s false ⟨#[125]⟩ q1 true w0 _ HI0.out HB.out HQ.out).mono ?_); rintro e w1 ⟨rfl, hI, hB, hK⟩; (try (replace HO := Aside0.mk (Kd.R_keep HO.out hK (fun k (hk : w.heap.size ≤ k) => by have := HG.out; omega)))); replace HI0 := Aside0.mk hI; replace HB := Aside0.mk hB; replace HK := Aside0.mk (HK.out.trans hK (.inl rfl)); clear hI hB hK; (try clear hc0 hc1 hf0 hf1); have hc0 := cellS67_0 HI0.out.1; have hc1 := cellS67_1 HI0.out.1; have hf0 := blk_frozen HI0.out.1 0; have hf1 := blk_frozen HI0.out.1 1)))
          go_ret
          refine ⟨_, rfl, Kd.R_mono (Kd.R_keep HO.out ((KeepBut.refl _ _ _).set_ 1 _) (fun k (hk : w.heap.size ≤ k) => by have := HG.out; omega)) (fun _ _ => trivial), ?_, below_set HB.out (IsS67.ge HI0.out), HK.out.set_ 1 _⟩
          have := HI0.out.set_1 true
          rwa [← H3.out]
        · replace e2 := Bool.eq_false_iff.2 e2
          subst e2
          cases hb_ : (q1.toList == []) with
          | true =>
            rw [hb_] at H3
            have hl_ : q1.toList = [] := by simpa using hb_
            have hl2_ : (!q1.toList.isEmpty) = false := by rw [hl_]; rfl
            clear hb_
            go_wp2_with (first | (go_at_call 46; (with_reducible refine (strings_HasPrefix.calls s ⟨#[125]⟩ true _ P125.out).mono ?_); rintro e w' ⟨rfl, ⟨nd, rfl⟩⟩; have n0 := Aside0.mk (IsS67.drewN HI0.out nd); have n1 := Aside0.mk (keep_drewN HK.out nd); have n2 := Aside0.mk (pw_below_drewN HB.out nd); have n3 := Aside0.mk (Kd.R_keep HO.out (keep_drewN (KeepBut.refl wr g none) nd) (fun k (hk : w.heap.size ≤ k) => by have := HG.out; omega)); clear HI0 HK HB HO HW hc0 hc1 hf0 hf1; generalize World.drewN wr nd = WA at n0 n1 n2 n3 ⊢; have HI0 := n0; have HK := n1; have HB := n2; have HO := n3; clear n0 n1 n2 n3; (try clear hc0 hc1 hf0 hf1); have hc0 := cellS67_0 HI0.out.1; have hc1 := cellS67_1 HI0.out.1; have hf0 := blk_frozen HI0.out.1 0; have hf1 := blk_frozen HI0.out.1 1) | (go_at_call 45; ((with_reducible refine (labels_reader_take.calls g s false ⟨#[125]⟩ q1 false w0 _ HI0.out HB.out HQ.out).mono ?_); rintro e w1 ⟨rfl, hI, hB, hK⟩; (try (replace HO := Aside0.mk (Kd.R_keep HO.out hK (fun k (hk : w.heap.size ≤ k) => by have := HG.out; omega)))); replace HI0 := Aside0.mk hI; replace HB := Aside0.mk hB; replace HK := Aside0.mk (HK.out.trans hK (.inl rfl)); clear hI hB hK; (try clear hc0 hc1 hf0 hf1); have hc0 := cellS67_0 HI0.out.1; have hc1 := cellS67_1 HI0.out.1; have hf0 := blk_frozen HI0.out.1 0; have hf1 := blk_frozen HI0.out.1 1)))
            go_ret
            refine ⟨_, rfl, Kd.R_mono (Kd.R_keep HO.out ((KeepBut.refl _ _ _).set_ 1 _) (fun k (hk : w.heap.size ≤ k) => by have := HG.out; omega)) (fun _ _ => trivial), ?_, below_set HB.out (IsS67.ge HI0.out), HK.out.set_ 1 _⟩
            have := HI0.out.set_1 false
            rwa [← H3.out]
          | false =>
            rw [hb_] at H3
            have hl_ : ¬ q1.toList = [] := by simpa using hb_
            have hl2_ : (!q1.toList.isEmpty) = true := by simp [List.isEmpty_iff, hl_]
            clear hb_
            go_wp2_with (first | (go_at_call 46; (with_reducible refine (strings_HasPrefix.calls s ⟨#[125]⟩ true _ P125.out).mono ?_); rintro e w' ⟨rfl, ⟨nd, rfl⟩⟩; have n0 := Aside0.mk (IsS67.drewN HI0.out nd); have n1 := Aside0.mk (keep_drewN HK.out nd); have n2 := Aside0.mk (pw_below_drewN HB.out nd); have n3 := Aside0.mk (Kd.R_keep HO.out (keep_drewN (KeepBut.refl wr g none) nd) (fun k (hk : w.heap.size ≤ k) => by have := HG.out; omega)); clear HI0 HK HB HO HW hc0 hc1 hf0 hf1; generalize World.drewN wr nd = WA at n0 n1 n2 n3 ⊢; have HI0 := n0; have HK := n1; have HB := n2; have HO := n3; clear n0 n1 n2 n3; (try clear hc0 hc1 hf0 hf1); have hc0 := cellS67_0 HI0.out.1; have hc1 := cellS67_1 HI0.out.1; have hf0 := blk_frozen HI0.out.1 0; have hf1 := blk_frozen HI0.out.1 1) | (go_at_call 45; ((with_reducible refine (labels_reader_take.calls g s false ⟨#[125]⟩ q1 false w0 _ HI0.out HB.out HQ.out).mono ?_); rintro e w1 ⟨rfl, hI, hB, hK⟩; (try (replace HO := Aside0.mk (Kd.R_keep HO.out hK (fun k (hk : w.heap.size ≤ k) => by have := HG.out; omega)))); replace HI0 := Aside0.mk hI; replace HB := Aside0.mk hB; replace HK := Aside0.mk (HK.out.trans hK (.inl rfl)); clear hI hB hK; (try clear hc0 hc1 hf0 hf1); have hc0 := cellS67_0 HI0.out.1; have hc1 := cellS67_1 HI0.out.1; have hf0 := blk_frozen HI0.out.1 0; have hf1 := blk_frozen HI0.out.1 1)))
            go_ret
            refine ⟨_, rfl, Kd.R_mono (Kd.R_keep HO.out ((KeepBut.refl _ _ _).set_ 1 _) (fun k (hk : w.heap.size ≤ k) => by have := HG.out; omega)) (fun _ _ => trivial), ?_, below_set HB.out (IsS67.ge HI0.out), HK.out.set_ 1 _⟩
            have := HI0.out.set_1 true
            rwa [← H3.out]
      rw [if_neg c1] at h
      replace h := Option.bind_eq_some_iff.mp h
      obtain ⟨⟨t1, t2⟩, htk, h⟩ := h
      replace h := Option.bind_eq_some_iff.mp h
      obtain ⟨⟨n1, n2, n3⟩, hn, h⟩ := h
      replace h := Option.bind_eq_some_iff.mp h
      obtain ⟨⟨g1, g2, g3⟩, hs, h⟩ := h
      replace h := Option.bind_eq_some_iff.mp h
      obtain ⟨⟨x1, x2, x3⟩, hx, h⟩ := h
      dsimp only at hn hs hx h
      have HN := Aside0.mk hn
      have HS := Aside0.mk hs
      have HX := Aside0.mk hx
      have HV := Aside0.mk h
      clear hn hs hx h
      by_cases ce : o.length = 0
      · rw [if_pos ce] at htk
        simp only [Option.some.injEq, Prod.mk.injEq] at htk
        obtain ⟨rfl, rfl⟩ := htk
        have z1 : decide ((0 : Int) < (o.length : Int)) = false := decide_eq_false (by omega)
        have z2 : decide (0 < o.length) = false := decide_eq_false (by omega)
        clear ce
        have c1' := Bool.eq_false_iff.2 c1
        have P125 : Aside0 (strings_HasPrefix.f s ⟨#[125]⟩ = some false) := ⟨by rw [hasPrefix1]; exact congrArg some c1'⟩
        clear c1 c1'
        have HE : Aside0 ((o ++ [(⟨g1, n1, x1⟩ : S42)]).length = o.length + 1) := ⟨by simp⟩
        by_cases c16 : 16 < o.length + 1
        · rw [if_pos c16] at HV
          have y1 : decide (16 < o.length + 1) = true := decide_eq_true c16
          have y2 : decide ((16 : Int) < (o.length : Int) + 1) = true := decide_eq_true (by omega)
          clear c16
          go_wp2_with (first | (go_at_call 46; (with_reducible refine (strings_HasPrefix.calls s ⟨#[125]⟩ false _ P125.out).mono ?_); rintro e w' ⟨rfl, ⟨nd, rfl⟩⟩; have n0 := Aside0.mk (IsS67.drewN HI0.out nd); have n1 := Aside0.mk (keep_drewN HK.out nd); have n2 := Aside0.mk (pw_below_drewN HB.out nd); have n3 := Aside0.mk (Kd.R_keep HO.out (keep_drewN (KeepBut.refl wr g none) nd) (fun k (hk : w.heap.size ≤ k) => by have := HG.out; omega)); clear HI0 HK HB HO HW hc0 hc1 hf0 hf1; generalize World.drewN wr nd = WA at n0 n1 n2 n3 ⊢; have HI0 := n0; have HK := n1; have HB := n2; have HO := n3; clear n0 n1 n2 n3; (try clear hc0 hc1 hf0 hf1); have hc0 := cellS67_0 HI0.out.1; have hc1 := cellS67_1 HI0.out.1; have hf0 := blk_frozen HI0.out.1 0; have hf1 := blk_frozen HI0.out.1 1) | (go_at_call 47; ((with_reducible refine (labels_reader_name.calls (s.size + 2) g s false n1 n2 n3 w0 _ HI0.out HB.out HN.out).mono ?_); rintro e WN ⟨rfl, hI, hB, hK⟩; (try (replace HO := Aside0.mk (Kd.R_keep HO.out hK (fun k (hk : w.heap.size ≤ k) => by have := HG.out; omega)))); replace HI0 := Aside0.mk hI; replace HB := Aside0.mk hB; replace HK := Aside0.mk (HK.out.trans hK (.inl rfl)); clear hI hB hK; (try clear hc0 hc1 hf0 hf1); have hc0 := cellS67_0 HI0.out.1; have hc1 := cellS67_1 HI0.out.1; have hf0 := blk_frozen HI0.out.1 0; have hf1 := blk_frozen HI0.out.1 1; have hne : Aside0 (WN.heap.size ≠ g) := ⟨by have := HI0.out.lt; omega⟩; have hwn : Aside0 (w.heap.size ≤ WN.heap.size) := ⟨HK.out.1⟩; have hgn := Aside0.mk HI0.out.lt; replace HO := Aside0.mk (R_okM (ok' := fun k => w.heap.size ≤ k ∧ k < WN.heap.size) HO.out (fun k hk => ⟨HO.out.1 k hk, Kd.R_lt HO.out k hk⟩)))) | (go_at_call 48; ((with_reducible refine (labels_reader_sign.calls g n2 n3 g1 g2 g3 w0 _ (HI0.out.alloc (.cells #[.int .i64 0, .string n1, .string (⟨#[]⟩ : ByteArray)] 42)) (below_alloc HB.out (.cells #[.int .i64 0, .string n1, .string (⟨#[]⟩ : ByteArray)] 42)) HS.out).mono ?_); rintro e WS ⟨rfl, hI, hB, hK⟩; have BX := Aside0.mk (hK.blk (show (WN.alloc (.cells #[.int .i64 0, .string n1, .string (⟨#[]⟩ : ByteArray)] 42)).heap[WN.heap.size]? = some (.cells #[.int .i64 0, .string n1, .string (⟨#[]⟩ : ByteArray)] 42 (0, 0)) from by simpa using heap_alloc_new WN _) hne.out (by simp)); replace HO := Aside0.mk (Kd.R_keep (Kd.R_alloc HO.out (.cells #[.int .i64 0, .string n1, .string (⟨#[]⟩ : ByteArray)] 42)) hK (fun k (hk : w.heap.size ≤ k ∧ k < WN.heap.size) => by have := HG.out; omega)); replace HK := Aside0.mk ((keep_alloc HK.out (.cells #[.int .i64 0, .string n1, .string (⟨#[]⟩ : ByteArray)] 42)).trans hK (.inl rfl)); replace HI0 := Aside0.mk hI; replace HB := Aside0.mk hB; clear hI hB hK; (try clear hc0 hc1 hf0 hf1); have hc0 := cellS67_0 HI0.out.1; have hc1 := cellS67_1 HI0.out.1; have hf0 := blk_frozen HI0.out.1 0; have hf1 := blk_frozen HI0.out.1 1; have hb0 := blk_cell BX.out 0; have hb1 := blk_cell BX.out 1; have hb2 := blk_cell BX.out 2; have hbf0 := blk_frozen BX.out 0; have hbf2 := blk_frozen BX.out 2)) | (go_at_call 49; ((with_reducible refine (labels_reader_value.calls g g2 g3 x1 x2 x3 w0 _ (HI0.out.far (p := ⟨WN.heap.size, 0, none⟩) (Ne.symm hne.out) (.int .i64 g1)) (below_set (j := 0) (v := .int .i64 g1) HB.out (Nat.le_trans HW0.out hwn.out)) HX.out).mono ?_); rintro e WV ⟨rfl, hI, hB, hK⟩; replace BX : Aside0 (WV.heap[WN.heap.size]? = some (.cells #[.int .i64 g1, .string n1, .string (⟨#[]⟩ : ByteArray)] 42 (0, 0))) := ⟨hK.blk (by simpa using blk_set BX.out 0 (.int .i64 g1)) hne.out (by simp)⟩; replace HO := Aside0.mk (Kd.R_keep (Kd.R_keep HO.out ((KeepBut.refl WS WN.heap.size none).set_ 0 (.int .i64 g1)) (fun k (hk : w.heap.size ≤ k ∧ k < WN.heap.size) => by omega)) hK (fun k (hk : w.heap.size ≤ k ∧ k < WN.heap.size) => by have := HG.out; omega)); replace HK := Aside0.mk ((keep_far HK.out (p := ⟨WN.heap.size, 0, none⟩) hwn.out (.int .i64 g1)).trans hK (.inl rfl)); replace HI0 := Aside0.mk hI; replace HB := Aside0.mk hB; clear hI hB hK hb0 hb1 hb2 hbf0 hbf2; (try clear hc0 hc1 hf0 hf1); have hc0 := cellS67_0 HI0.out.1; have hc1 := cellS67_1 HI0.out.1; have hf0 := blk_frozen HI0.out.1 0; have hf1 := blk_frozen HI0.out.1 1; have hb0 := blk_cell BX.out 0; have hb1 := blk_cell BX.out 1; have hb2 := blk_cell BX.out 2; have hbf2 := blk_frozen BX.out 2)) | ((with_reducible refine gate_builtin (b := .append) (xs := #[.tmp 34, .tmp 36]) rfl ?_); at_builtin; (refine Kd.R_append k42 (w0 := (WV.setCell ⟨WN.heap.size, 2, none⟩ (.string x1))) w.heap.size rfl (.tmp 34) (.tmp 36) 37 42 (.agg #[.int .i64 0, .string ⟨#[]⟩, .string ⟨#[]⟩]) 40 rfl Try.underlying37 info42 rfl (by decide) (by omega) (.slice A3 o.length c3) o ⟨g1, n1, x1⟩ [.int .i64 g1, .string n1, .string x1] (fun k => w.heap.size ≤ k) (fun _ => False) rfl (by first | rfl | (go_simp; done) | (simp [World.setCell]; done)) ?aP (fun _ hk => hk.elim) ?aF ?aO ?aB ?aS ?aL ?_; (case aP => exact k42_mkM _ _ _ _); (case aB => exact Below.refl _ _); (case aF => exact (fun k hk => Nat.le_trans (keep_size (w := w) (g := g) (row := none) (keep_far HK.out (p := ⟨WN.heap.size, 2, none⟩) hwn.out _)) hk)); (case aO => exact R_okM (Kd.R_keep HO.out ((KeepBut.refl WV WN.heap.size none).set_ 2 _) (fun k (hk : w.heap.size ≤ k ∧ k < WN.heap.size) => by omega)) (fun k hk => (HO.out.1 k hk).1)); (case aS => exact keep_size (w := w) (g := g) (row := none) (keep_far HK.out (p := ⟨WN.heap.size, 2, none⟩) hwn.out _)); (case aL => have := HL.out; omega); intro z4 w5 ho hb hg hat; have HI1 := Aside0.mk (IsS67.grown (HI0.out.far (p := ⟨WN.heap.size, 2, none⟩) (Ne.symm hne.out) (.string x1)) hg (fun e => by have := (HO.out.1 _ e.symm).1; have := HG.out; omega)); replace HK := Aside0.mk (KeepBut.trans (keep_far HK.out (p := ⟨WN.heap.size, 2, none⟩) hwn.out (.string x1)) (KeepBut.of_grown hg g) (by cases hq_ : (Value.slice A3 o.length c3).ownBlock with | none => exact .inl rfl | some q_ => exact .inr ⟨q_, rfl, (HO.out.1 _ hq_).1⟩)); replace HB := Aside0.mk ((below_set (j := 2) (v := .string x1) HB.out (Nat.le_trans HW0.out hwn.out)).trans (hb.mono HW0.out)); replace HO := Aside0.mk ho; replace HI0 := HI1; obtain ⟨A_, c_, rfl, -⟩ := Kd.R_reads ho; clear ho hb hg hat HI1 hb0 hb1 hb2 hbf2; (try clear hc0 hc1 hf0 hf1); have hc0 := cellS67_0 HI0.out.1; have hc1 := cellS67_1 HI0.out.1; have hf0 := blk_frozen HI0.out.1 0; have hf1 := blk_frozen HI0.out.1 1)))
          go_roundg d
          case measure => omega
          case rel =>
            have ho := HO.out
            rw [HE.out] at ho
            exact ⟨x2, true, _, ⟨by have := HL.out; rw [HE.out]; omega⟩, HV, ⟨HI0.out.set_1 true⟩, ⟨below_set HB.out (IsS67.ge HI0.out)⟩, ⟨HK.out.set_ 1 _⟩, ⟨Kd.R_keep ho ((KeepBut.refl _ _ _).set_ 1 _) (fun k (hk : w.heap.size ≤ k) => by have := HG.out; omega)⟩⟩
        · rw [if_neg c16] at HV
          have y1 : decide (16 < o.length + 1) = false := decide_eq_false c16
          have y2 : decide ((16 : Int) < (o.length : Int) + 1) = false := decide_eq_false (by omega)
          clear c16
          go_wp2_with (first | (go_at_call 46; (with_reducible refine (strings_HasPrefix.calls s ⟨#[125]⟩ false _ P125.out).mono ?_); rintro e w' ⟨rfl, ⟨nd, rfl⟩⟩; have n0 := Aside0.mk (IsS67.drewN HI0.out nd); have n1 := Aside0.mk (keep_drewN HK.out nd); have n2 := Aside0.mk (pw_below_drewN HB.out nd); have n3 := Aside0.mk (Kd.R_keep HO.out (keep_drewN (KeepBut.refl wr g none) nd) (fun k (hk : w.heap.size ≤ k) => by have := HG.out; omega)); clear HI0 HK HB HO HW hc0 hc1 hf0 hf1; generalize World.drewN wr nd = WA at n0 n1 n2 n3 ⊢; have HI0 := n0; have HK := n1; have HB := n2; have HO := n3; clear n0 n1 n2 n3; (try clear hc0 hc1 hf0 hf1); have hc0 := cellS67_0 HI0.out.1; have hc1 := cellS67_1 HI0.out.1; have hf0 := blk_frozen HI0.out.1 0; have hf1 := blk_frozen HI0.out.1 1) | (go_at_call 47; ((with_reducible refine (labels_reader_name.calls (s.size + 2) g s false n1 n2 n3 w0 _ HI0.out HB.out HN.out).mono ?_); rintro e WN ⟨rfl, hI, hB, hK⟩; (try (replace HO := Aside0.mk (Kd.R_keep HO.out hK (fun k (hk : w.heap.size ≤ k) => by have := HG.out; omega)))); replace HI0 := Aside0.mk hI; replace HB := Aside0.mk hB; replace HK := Aside0.mk (HK.out.trans hK (.inl rfl)); clear hI hB hK; (try clear hc0 hc1 hf0 hf1); have hc0 := cellS67_0 HI0.out.1; have hc1 := cellS67_1 HI0.out.1; have hf0 := blk_frozen HI0.out.1 0; have hf1 := blk_frozen HI0.out.1 1; have hne : Aside0 (WN.heap.size ≠ g) := ⟨by have := HI0.out.lt; omega⟩; have hwn : Aside0 (w.heap.size ≤ WN.heap.size) := ⟨HK.out.1⟩; have hgn := Aside0.mk HI0.out.lt; replace HO := Aside0.mk (R_okM (ok' := fun k => w.heap.size ≤ k ∧ k < WN.heap.size) HO.out (fun k hk => ⟨HO.out.1 k hk, Kd.R_lt HO.out k hk⟩)))) | (go_at_call 48; ((with_reducible refine (labels_reader_sign.calls g n2 n3 g1 g2 g3 w0 _ (HI0.out.alloc (.cells #[.int .i64 0, .string n1, .string (⟨#[]⟩ : ByteArray)] 42)) (below_alloc HB.out (.cells #[.int .i64 0, .string n1, .string (⟨#[]⟩ : ByteArray)] 42)) HS.out).mono ?_); rintro e WS ⟨rfl, hI, hB, hK⟩; have BX := Aside0.mk (hK.blk (show (WN.alloc (.cells #[.int .i64 0, .string n1, .string (⟨#[]⟩ : ByteArray)] 42)).heap[WN.heap.size]? = some (.cells #[.int .i64 0, .string n1, .string (⟨#[]⟩ : ByteArray)] 42 (0, 0)) from by simpa using heap_alloc_new WN _) hne.out (by simp)); replace HO := Aside0.mk (Kd.R_keep (Kd.R_alloc HO.out (.cells #[.int .i64 0, .string n1, .string (⟨#[]⟩ : ByteArray)] 42)) hK (fun k (hk : w.heap.size ≤ k ∧ k < WN.heap.size) => by have := HG.out; omega)); replace HK := Aside0.mk ((keep_alloc HK.out (.cells #[.int .i64 0, .string n1, .string (⟨#[]⟩ : ByteArray)] 42)).trans hK (.inl rfl)); replace HI0 := Aside0.mk hI; replace HB := Aside0.mk hB; clear hI hB hK; (try clear hc0 hc1 hf0 hf1); have hc0 := cellS67_0 HI0.out.1; have hc1 := cellS67_1 HI0.out.1; have hf0 := blk_frozen HI0.out.1 0; have hf1 := blk_frozen HI0.out.1 1; have hb0 := blk_cell BX.out 0; have hb1 := blk_cell BX.out 1; have hb2 := blk_cell BX.out 2; have hbf0 := blk_frozen BX.out 0; have hbf2 := blk_frozen BX.out 2)) | (go_at_call 49; ((with_reducible refine (labels_reader_value.calls g g2 g3 x1 x2 x3 w0 _ (HI0.out.far (p := ⟨WN.heap.size, 0, none⟩) (Ne.symm hne.out) (.int .i64 g1)) (below_set (j := 0) (v := .int .i64 g1) HB.out (Nat.le_trans HW0.out hwn.out)) HX.out).mono ?_); rintro e WV ⟨rfl, hI, hB, hK⟩; replace BX : Aside0 (WV.heap[WN.heap.size]? = some (.cells #[.int .i64 g1, .string n1, .string (⟨#[]⟩ : ByteArray)] 42 (0, 0))) := ⟨hK.blk (by simpa using blk_set BX.out 0 (.int .i64 g1)) hne.out (by simp)⟩; replace HO := Aside0.mk (Kd.R_keep (Kd.R_keep HO.out ((KeepBut.refl WS WN.heap.size none).set_ 0 (.int .i64 g1)) (fun k (hk : w.heap.size ≤ k ∧ k < WN.heap.size) => by omega)) hK (fun k (hk : w.heap.size ≤ k ∧ k < WN.heap.size) => by have := HG.out; omega)); replace HK := Aside0.mk ((keep_far HK.out (p := ⟨WN.heap.size, 0, none⟩) hwn.out (.int .i64 g1)).trans hK (.inl rfl)); replace HI0 := Aside0.mk hI; replace HB := Aside0.mk hB; clear hI hB hK hb0 hb1 hb2 hbf0 hbf2; (try clear hc0 hc1 hf0 hf1); have hc0 := cellS67_0 HI0.out.1; have hc1 := cellS67_1 HI0.out.1; have hf0 := blk_frozen HI0.out.1 0; have hf1 := blk_frozen HI0.out.1 1; have hb0 := blk_cell BX.out 0; have hb1 := blk_cell BX.out 1; have hb2 := blk_cell BX.out 2; have hbf2 := blk_frozen BX.out 2)) | ((with_reducible refine gate_builtin (b := .append) (xs := #[.tmp 34, .tmp 36]) rfl ?_); at_builtin; (refine Kd.R_append k42 (w0 := (WV.setCell ⟨WN.heap.size, 2, none⟩ (.string x1))) w.heap.size rfl (.tmp 34) (.tmp 36) 37 42 (.agg #[.int .i64 0, .string ⟨#[]⟩, .string ⟨#[]⟩]) 40 rfl Try.underlying37 info42 rfl (by decide) (by omega) (.slice A3 o.length c3) o ⟨g1, n1, x1⟩ [.int .i64 g1, .string n1, .string x1] (fun k => w.heap.size ≤ k) (fun _ => False) rfl (by first | rfl | (go_simp; done) | (simp [World.setCell]; done)) ?aP (fun _ hk => hk.elim) ?aF ?aO ?aB ?aS ?aL ?_; (case aP => exact k42_mkM _ _ _ _); (case aB => exact Below.refl _ _); (case aF => exact (fun k hk => Nat.le_trans (keep_size (w := w) (g := g) (row := none) (keep_far HK.out (p := ⟨WN.heap.size, 2, none⟩) hwn.out _)) hk)); (case aO => exact R_okM (Kd.R_keep HO.out ((KeepBut.refl WV WN.heap.size none).set_ 2 _) (fun k (hk : w.heap.size ≤ k ∧ k < WN.heap.size) => by omega)) (fun k hk => (HO.out.1 k hk).1)); (case aS => exact keep_size (w := w) (g := g) (row := none) (keep_far HK.out (p := ⟨WN.heap.size, 2, none⟩) hwn.out _)); (case aL => have := HL.out; omega); intro z4 w5 ho hb hg hat; have HI1 := Aside0.mk (IsS67.grown (HI0.out.far (p := ⟨WN.heap.size, 2, none⟩) (Ne.symm hne.out) (.string x1)) hg (fun e => by have := (HO.out.1 _ e.symm).1; have := HG.out; omega)); replace HK := Aside0.mk (KeepBut.trans (keep_far HK.out (p := ⟨WN.heap.size, 2, none⟩) hwn.out (.string x1)) (KeepBut.of_grown hg g) (by cases hq_ : (Value.slice A3 o.length c3).ownBlock with | none => exact .inl rfl | some q_ => exact .inr ⟨q_, rfl, (HO.out.1 _ hq_).1⟩)); replace HB := Aside0.mk ((below_set (j := 2) (v := .string x1) HB.out (Nat.le_trans HW0.out hwn.out)).trans (hb.mono HW0.out)); replace HO := Aside0.mk ho; replace HI0 := HI1; obtain ⟨A_, c_, rfl, -⟩ := Kd.R_reads ho; clear ho hb hg hat HI1 hb0 hb1 hb2 hbf2; (try clear hc0 hc1 hf0 hf1); have hc0 := cellS67_0 HI0.out.1; have hc1 := cellS67_1 HI0.out.1; have hf0 := blk_frozen HI0.out.1 0; have hf1 := blk_frozen HI0.out.1 1)))
          go_roundg d
          case measure => omega
          case rel =>
            have ho := HO.out
            rw [HE.out] at ho
            exact ⟨x2, x3, _, ⟨by have := HL.out; rw [HE.out]; omega⟩, HV, HI0, HB, HK, ⟨ho⟩⟩
      · rw [if_neg ce] at htk
        have HTK := Aside0.mk htk
        clear htk
        have z1 : decide ((0 : Int) < (o.length : Int)) = true := decide_eq_true (by omega)
        have z2 : decide (0 < o.length) = true := decide_eq_true (by omega)
        clear ce
        have c1' := Bool.eq_false_iff.2 c1
        have P125 : Aside0 (strings_HasPrefix.f s ⟨#[125]⟩ = some false) := ⟨by rw [hasPrefix1]; exact congrArg some c1'⟩
        clear c1 c1'
        have HE : Aside0 ((o ++ [(⟨g1, n1, x1⟩ : S42)]).length = o.length + 1) := ⟨by simp⟩
        by_cases c16 : 16 < o.length + 1
        · rw [if_pos c16] at HV
          have y1 : decide (16 < o.length + 1) = true := decide_eq_true c16
          have y2 : decide ((16 : Int) < (o.length : Int) + 1) = true := decide_eq_true (by omega)
          clear c16
          go_wp2_with (first | (go_at_call 46; (with_reducible refine (strings_HasPrefix.calls s ⟨#[125]⟩ false _ P125.out).mono ?_); rintro e w' ⟨rfl, ⟨nd, rfl⟩⟩; have n0 := Aside0.mk (IsS67.drewN HI0.out nd); have n1 := Aside0.mk (keep_drewN HK.out nd); have n2 := Aside0.mk (pw_below_drewN HB.out nd); have n3 := Aside0.mk (Kd.R_keep HO.out (keep_drewN (KeepBut.refl wr g none) nd) (fun k (hk : w.heap.size ≤ k) => by have := HG.out; omega)); clear HI0 HK HB HO HW hc0 hc1 hf0 hf1; generalize World.drewN wr nd = WA at n0 n1 n2 n3 ⊢; have HI0 := n0; have HK := n1; have HB := n2; have HO := n3; clear n0 n1 n2 n3; (try clear hc0 hc1 hf0 hf1); have hc0 := cellS67_0 HI0.out.1; have hc1 := cellS67_1 HI0.out.1; have hf0 := blk_frozen HI0.out.1 0; have hf1 := blk_frozen HI0.out.1 1) | (go_at_call 45; ((with_reducible refine (labels_reader_take.calls g s false ⟨#[44]⟩ t1 t2 w0 _ HI0.out HB.out HTK.out).mono ?_); rintro e w1 ⟨rfl, hI, hB, hK⟩; (try (replace HO := Aside0.mk (Kd.R_keep HO.out hK (fun k (hk : w.heap.size ≤ k) => by have := HG.out; omega)))); replace HI0 := Aside0.mk hI; replace HB := Aside0.mk hB; replace HK := Aside0.mk (HK.out.trans hK (.inl rfl)); clear hI hB hK; (try clear hc0 hc1 hf0 hf1); have hc0 := cellS67_0 HI0.out.1; have hc1 := cellS67_1 HI0.out.1; have hf0 := blk_frozen HI0.out.1 0; have hf1 := blk_frozen HI0.out.1 1)) | (go_at_call 47; ((with_reducible refine (labels_reader_name.calls (t1.size + 2) g t1 t2 n1 n2 n3 w0 _ HI0.out HB.out HN.out).mono ?_); rintro e WN ⟨rfl, hI, hB, hK⟩; (try (replace HO := Aside0.mk (Kd.R_keep HO.out hK (fun k (hk : w.heap.size ≤ k) => by have := HG.out; omega)))); replace HI0 := Aside0.mk hI; replace HB := Aside0.mk hB; replace HK := Aside0.mk (HK.out.trans hK (.inl rfl)); clear hI hB hK; (try clear hc0 hc1 hf0 hf1); have hc0 := cellS67_0 HI0.out.1; have hc1 := cellS67_1 HI0.out.1; have hf0 := blk_frozen HI0.out.1 0; have hf1 := blk_frozen HI0.out.1 1; have hne : Aside0 (WN.heap.size ≠ g) := ⟨by have := HI0.out.lt; omega⟩; have hwn : Aside0 (w.heap.size ≤ WN.heap.size) := ⟨HK.out.1⟩; have hgn := Aside0.mk HI0.out.lt; replace HO := Aside0.mk (R_okM (ok' := fun k => w.heap.size ≤ k ∧ k < WN.heap.size) HO.out (fun k hk => ⟨HO.out.1 k hk, Kd.R_lt HO.out k hk⟩)))) | (go_at_call 48; ((with_reducible refine (labels_reader_sign.calls g n2 n3 g1 g2 g3 w0 _ (HI0.out.alloc (.cells #[.int .i64 0, .string n1, .string (⟨#[]⟩ : ByteArray)] 42)) (below_alloc HB.out (.cells #[.int .i64 0, .string n1, .string (⟨#[]⟩ : ByteArray)] 42)) HS.out).mono ?_); rintro e WS ⟨rfl, hI, hB, hK⟩; have BX := Aside0.mk (hK.blk (show (WN.alloc (.cells #[.int .i64 0, .string n1, .string (⟨#[]⟩ : ByteArray)] 42)).heap[WN.heap.size]? = some (.cells #[.int .i64 0, .string n1, .string (⟨#[]⟩ : ByteArray)] 42 (0, 0)) from by simpa using heap_alloc_new WN _) hne.out (by simp)); replace HO := Aside0.mk (Kd.R_keep (Kd.R_alloc HO.out (.cells #[.int .i64 0, .string n1, .string (⟨#[]⟩ : ByteArray)] 42)) hK (fun k (hk : w.heap.size ≤ k ∧ k < WN.heap.size) => by have := HG.out; omega)); replace HK := Aside0.mk ((keep_alloc HK.out (.cells #[.int .i64 0, .string n1, .string (⟨#[]⟩ : ByteArray)] 42)).trans hK (.inl rfl)); replace HI0 := Aside0.mk hI; replace HB := Aside0.mk hB; clear hI hB hK; (try clear hc0 hc1 hf0 hf1); have hc0 := cellS67_0 HI0.out.1; have hc1 := cellS67_1 HI0.out.1; have hf0 := blk_frozen HI0.out.1 0; have hf1 := blk_frozen HI0.out.1 1; have hb0 := blk_cell BX.out 0; have hb1 := blk_cell BX.out 1; have hb2 := blk_cell BX.out 2; have hbf0 := blk_frozen BX.out 0; have hbf2 := blk_frozen BX.out 2)) | (go_at_call 49; ((with_reducible refine (labels_reader_value.calls g g2 g3 x1 x2 x3 w0 _ (HI0.out.far (p := ⟨WN.heap.size, 0, none⟩) (Ne.symm hne.out) (.int .i64 g1)) (below_set (j := 0) (v := .int .i64 g1) HB.out (Nat.le_trans HW0.out hwn.out)) HX.out).mono ?_); rintro e WV ⟨rfl, hI, hB, hK⟩; replace BX : Aside0 (WV.heap[WN.heap.size]? = some (.cells #[.int .i64 g1, .string n1, .string (⟨#[]⟩ : ByteArray)] 42 (0, 0))) := ⟨hK.blk (by simpa using blk_set BX.out 0 (.int .i64 g1)) hne.out (by simp)⟩; replace HO := Aside0.mk (Kd.R_keep (Kd.R_keep HO.out ((KeepBut.refl WS WN.heap.size none).set_ 0 (.int .i64 g1)) (fun k (hk : w.heap.size ≤ k ∧ k < WN.heap.size) => by omega)) hK (fun k (hk : w.heap.size ≤ k ∧ k < WN.heap.size) => by have := HG.out; omega)); replace HK := Aside0.mk ((keep_far HK.out (p := ⟨WN.heap.size, 0, none⟩) hwn.out (.int .i64 g1)).trans hK (.inl rfl)); replace HI0 := Aside0.mk hI; replace HB := Aside0.mk hB; clear hI hB hK hb0 hb1 hb2 hbf0 hbf2; (try clear hc0 hc1 hf0 hf1); have hc0 := cellS67_0 HI0.out.1; have hc1 := cellS67_1 HI0.out.1; have hf0 := blk_frozen HI0.out.1 0; have hf1 := blk_frozen HI0.out.1 1; have hb0 := blk_cell BX.out 0; have hb1 := blk_cell BX.out 1; have hb2 := blk_cell BX.out 2; have hbf2 := blk_frozen BX.out 2)) | ((with_reducible refine gate_builtin (b := .append) (xs := #[.tmp 34, .tmp 36]) rfl ?_); at_builtin; (refine Kd.R_append k42 (w0 := (WV.setCell ⟨WN.heap.size, 2, none⟩ (.string x1))) w.heap.size rfl (.tmp 34) (.tmp 36) 37 42 (.agg #[.int .i64 0, .string ⟨#[]⟩, .string ⟨#[]⟩]) 40 rfl Try.underlying37 info42 rfl (by decide) (by omega) (.slice A3 o.length c3) o ⟨g1, n1, x1⟩ [.int .i64 g1, .string n1, .string x1] (fun k => w.heap.size ≤ k) (fun _ => False) rfl (by first | rfl | (go_simp; done) | (simp [World.setCell]; done)) ?aP (fun _ hk => hk.elim) ?aF ?aO ?aB ?aS ?aL ?_; (case aP => exact k42_mkM _ _ _ _); (case aB => exact Below.refl _ _); (case aF => exact (fun k hk => Nat.le_trans (keep_size (w := w) (g := g) (row := none) (keep_far HK.out (p := ⟨WN.heap.size, 2, none⟩) hwn.out _)) hk)); (case aO => exact R_okM (Kd.R_keep HO.out ((KeepBut.refl WV WN.heap.size none).set_ 2 _) (fun k (hk : w.heap.size ≤ k ∧ k < WN.heap.size) => by omega)) (fun k hk => (HO.out.1 k hk).1)); (case aS => exact keep_size (w := w) (g := g) (row := none) (keep_far HK.out (p := ⟨WN.heap.size, 2, none⟩) hwn.out _)); (case aL => have := HL.out; omega); intro z4 w5 ho hb hg hat; have HI1 := Aside0.mk (IsS67.grown (HI0.out.far (p := ⟨WN.heap.size, 2, none⟩) (Ne.symm hne.out) (.string x1)) hg (fun e => by have := (HO.out.1 _ e.symm).1; have := HG.out; omega)); replace HK := Aside0.mk (KeepBut.trans (keep_far HK.out (p := ⟨WN.heap.size, 2, none⟩) hwn.out (.string x1)) (KeepBut.of_grown hg g) (by cases hq_ : (Value.slice A3 o.length c3).ownBlock with | none => exact .inl rfl | some q_ => exact .inr ⟨q_, rfl, (HO.out.1 _ hq_).1⟩)); replace HB := Aside0.mk ((below_set (j := 2) (v := .string x1) HB.out (Nat.le_trans HW0.out hwn.out)).trans (hb.mono HW0.out)); replace HO := Aside0.mk ho; replace HI0 := HI1; obtain ⟨A_, c_, rfl, -⟩ := Kd.R_reads ho; clear ho hb hg hat HI1 hb0 hb1 hb2 hbf2; (try clear hc0 hc1 hf0 hf1); have hc0 := cellS67_0 HI0.out.1; have hc1 := cellS67_1 HI0.out.1; have hf0 := blk_frozen HI0.out.1 0; have hf1 := blk_frozen HI0.out.1 1)))
          go_roundg d
          case measure => omega
          case rel =>
            have ho := HO.out
            rw [HE.out] at ho
            exact ⟨x2, true, _, ⟨by have := HL.out; rw [HE.out]; omega⟩, HV, ⟨HI0.out.set_1 true⟩, ⟨below_set HB.out (IsS67.ge HI0.out)⟩, ⟨HK.out.set_ 1 _⟩, ⟨Kd.R_keep ho ((KeepBut.refl _ _ _).set_ 1 _) (fun k (hk : w.heap.size ≤ k) => by have := HG.out; omega)⟩⟩
        · rw [if_neg c16] at HV
          have y1 : decide (16 < o.length + 1) = false := decide_eq_false c16
          have y2 : decide ((16 : Int) < (o.length : Int) + 1) = false := decide_eq_false (by omega)
          clear c16
          go_wp2_with (first | (go_at_call 46; (with_reducible refine (strings_HasPrefix.calls s ⟨#[125]⟩ false _ P125.out).mono ?_); rintro e w' ⟨rfl, ⟨nd, rfl⟩⟩; have n0 := Aside0.mk (IsS67.drewN HI0.out nd); have n1 := Aside0.mk (keep_drewN HK.out nd); have n2 := Aside0.mk (pw_below_drewN HB.out nd); have n3 := Aside0.mk (Kd.R_keep HO.out (keep_drewN (KeepBut.refl wr g none) nd) (fun k (hk : w.heap.size ≤ k) => by have := HG.out; omega)); clear HI0 HK HB HO HW hc0 hc1 hf0 hf1; generalize World.drewN wr nd = WA at n0 n1 n2 n3 ⊢; have HI0 := n0; have HK := n1; have HB := n2; have HO := n3; clear n0 n1 n2 n3; (try clear hc0 hc1 hf0 hf1); have hc0 := cellS67_0 HI0.out.1; have hc1 := cellS67_1 HI0.out.1; have hf0 := blk_frozen HI0.out.1 0; have hf1 := blk_frozen HI0.out.1 1) | (go_at_call 45; ((with_reducible refine (labels_reader_take.calls g s false ⟨#[44]⟩ t1 t2 w0 _ HI0.out HB.out HTK.out).mono ?_); rintro e w1 ⟨rfl, hI, hB, hK⟩; (try (replace HO := Aside0.mk (Kd.R_keep HO.out hK (fun k (hk : w.heap.size ≤ k) => by have := HG.out; omega)))); replace HI0 := Aside0.mk hI; replace HB := Aside0.mk hB; replace HK := Aside0.mk (HK.out.trans hK (.inl rfl)); clear hI hB hK; (try clear hc0 hc1 hf0 hf1); have hc0 := cellS67_0 HI0.out.1; have hc1 := cellS67_1 HI0.out.1; have hf0 := blk_frozen HI0.out.1 0; have hf1 := blk_frozen HI0.out.1 1)) | (go_at_call 47; ((with_reducible refine (labels_reader_name.calls (t1.size + 2) g t1 t2 n1 n2 n3 w0 _ HI0.out HB.out HN.out).mono ?_); rintro e WN ⟨rfl, hI, hB, hK⟩; (try (replace HO := Aside0.mk (Kd.R_keep HO.out hK (fun k (hk : w.heap.size ≤ k) => by have := HG.out; omega)))); replace HI0 := Aside0.mk hI; replace HB := Aside0.mk hB; replace HK := Aside0.mk (HK.out.trans hK (.inl rfl)); clear hI hB hK; (try clear hc0 hc1 hf0 hf1); have hc0 := cellS67_0 HI0.out.1; have hc1 := cellS67_1 HI0.out.1; have hf0 := blk_frozen HI0.out.1 0; have hf1 := blk_frozen HI0.out.1 1; have hne : Aside0 (WN.heap.size ≠ g) := ⟨by have := HI0.out.lt; omega⟩; have hwn : Aside0 (w.heap.size ≤ WN.heap.size) := ⟨HK.out.1⟩; have hgn := Aside0.mk HI0.out.lt; replace HO := Aside0.mk (R_okM (ok' := fun k => w.heap.size ≤ k ∧ k < WN.heap.size) HO.out (fun k hk => ⟨HO.out.1 k hk, Kd.R_lt HO.out k hk⟩)))) | (go_at_call 48; ((with_reducible refine (labels_reader_sign.calls g n2 n3 g1 g2 g3 w0 _ (HI0.out.alloc (.cells #[.int .i64 0, .string n1, .string (⟨#[]⟩ : ByteArray)] 42)) (below_alloc HB.out (.cells #[.int .i64 0, .string n1, .string (⟨#[]⟩ : ByteArray)] 42)) HS.out).mono ?_); rintro e WS ⟨rfl, hI, hB, hK⟩; have BX := Aside0.mk (hK.blk (show (WN.alloc (.cells #[.int .i64 0, .string n1, .string (⟨#[]⟩ : ByteArray)] 42)).heap[WN.heap.size]? = some (.cells #[.int .i64 0, .string n1, .string (⟨#[]⟩ : ByteArray)] 42 (0, 0)) from by simpa using heap_alloc_new WN _) hne.out (by simp)); replace HO := Aside0.mk (Kd.R_keep (Kd.R_alloc HO.out (.cells #[.int .i64 0, .string n1, .string (⟨#[]⟩ : ByteArray)] 42)) hK (fun k (hk : w.heap.size ≤ k ∧ k < WN.heap.size) => by have := HG.out; omega)); replace HK := Aside0.mk ((keep_alloc HK.out (.cells #[.int .i64 0, .string n1, .string (⟨#[]⟩ : ByteArray)] 42)).trans hK (.inl rfl)); replace HI0 := Aside0.mk hI; replace HB := Aside0.mk hB; clear hI hB hK; (try clear hc0 hc1 hf0 hf1); have hc0 := cellS67_0 HI0.out.1; have hc1 := cellS67_1 HI0.out.1; have hf0 := blk_frozen HI0.out.1 0; have hf1 := blk_frozen HI0.out.1 1; have hb0 := blk_cell BX.out 0; have hb1 := blk_cell BX.out 1; have hb2 := blk_cell BX.out 2; have hbf0 := blk_frozen BX.out 0; have hbf2 := blk_frozen BX.out 2)) | (go_at_call 49; ((with_reducible refine (labels_reader_value.calls g g2 g3 x1 x2 x3 w0 _ (HI0.out.far (p := ⟨WN.heap.size, 0, none⟩) (Ne.symm hne.out) (.int .i64 g1)) (below_set (j := 0) (v := .int .i64 g1) HB.out (Nat.le_trans HW0.out hwn.out)) HX.out).mono ?_); rintro e WV ⟨rfl, hI, hB, hK⟩; replace BX : Aside0 (WV.heap[WN.heap.size]? = some (.cells #[.int .i64 g1, .string n1, .string (⟨#[]⟩ : ByteArray)] 42 (0, 0))) := ⟨hK.blk (by simpa using blk_set BX.out 0 (.int .i64 g1)) hne.out (by simp)⟩; replace HO := Aside0.mk (Kd.R_keep (Kd.R_keep HO.out ((KeepBut.refl WS WN.heap.size none).set_ 0 (.int .i64 g1)) (fun k (hk : w.heap.size ≤ k ∧ k < WN.heap.size) => by omega)) hK (fun k (hk : w.heap.size ≤ k ∧ k < WN.heap.size) => by have := HG.out; omega)); replace HK := Aside0.mk ((keep_far HK.out (p := ⟨WN.heap.size, 0, none⟩) hwn.out (.int .i64 g1)).trans hK (.inl rfl)); replace HI0 := Aside0.mk hI; replace HB := Aside0.mk hB; clear hI hB hK hb0 hb1 hb2 hbf0 hbf2; (try clear hc0 hc1 hf0 hf1); have hc0 := cellS67_0 HI0.out.1; have hc1 := cellS67_1 HI0.out.1; have hf0 := blk_frozen HI0.out.1 0; have hf1 := blk_frozen HI0.out.1 1; have hb0 := blk_cell BX.out 0; have hb1 := blk_cell BX.out 1; have hb2 := blk_cell BX.out 2; have hbf2 := blk_frozen BX.out 2)) | ((with_reducible refine gate_builtin (b := .append) (xs := #[.tmp 34, .tmp 36]) rfl ?_); at_builtin; (refine Kd.R_append k42 (w0 := (WV.setCell ⟨WN.heap.size, 2, none⟩ (.string x1))) w.heap.size rfl (.tmp 34) (.tmp 36) 37 42 (.agg #[.int .i64 0, .string ⟨#[]⟩, .string ⟨#[]⟩]) 40 rfl Try.underlying37 info42 rfl (by decide) (by omega) (.slice A3 o.length c3) o ⟨g1, n1, x1⟩ [.int .i64 g1, .string n1, .string x1] (fun k => w.heap.size ≤ k) (fun _ => False) rfl (by first | rfl | (go_simp; done) | (simp [World.setCell]; done)) ?aP (fun _ hk => hk.elim) ?aF ?aO ?aB ?aS ?aL ?_; (case aP => exact k42_mkM _ _ _ _); (case aB => exact Below.refl _ _); (case aF => exact (fun k hk => Nat.le_trans (keep_size (w := w) (g := g) (row := none) (keep_far HK.out (p := ⟨WN.heap.size, 2, none⟩) hwn.out _)) hk)); (case aO => exact R_okM (Kd.R_keep HO.out ((KeepBut.refl WV WN.heap.size none).set_ 2 _) (fun k (hk : w.heap.size ≤ k ∧ k < WN.heap.size) => by omega)) (fun k hk => (HO.out.1 k hk).1)); (case aS => exact keep_size (w := w) (g := g) (row := none) (keep_far HK.out (p := ⟨WN.heap.size, 2, none⟩) hwn.out _)); (case aL => have := HL.out; omega); intro z4 w5 ho hb hg hat; have HI1 := Aside0.mk (IsS67.grown (HI0.out.far (p := ⟨WN.heap.size, 2, none⟩) (Ne.symm hne.out) (.string x1)) hg (fun e => by have := (HO.out.1 _ e.symm).1; have := HG.out; omega)); replace HK := Aside0.mk (KeepBut.trans (keep_far HK.out (p := ⟨WN.heap.size, 2, none⟩) hwn.out (.string x1)) (KeepBut.of_grown hg g) (by cases hq_ : (Value.slice A3 o.length c3).ownBlock with | none => exact .inl rfl | some q_ => exact .inr ⟨q_, rfl, (HO.out.1 _ hq_).1⟩)); replace HB := Aside0.mk ((below_set (j := 2) (v := .string x1) HB.out (Nat.le_trans HW0.out hwn.out)).trans (hb.mono HW0.out)); replace HO := Aside0.mk ho; replace HI0 := HI1; obtain ⟨A_, c_, rfl, -⟩ := Kd.R_reads ho; clear ho hb hg hat HI1 hb0 hb1 hb2 hbf2; (try clear hc0 hc1 hf0 hf1); have hc0 := cellS67_0 HI0.out.1; have hc1 := cellS67_1 HI0.out.1; have hf0 := blk_frozen HI0.out.1 0; have hf1 := blk_frozen HI0.out.1 1)))
          go_roundg d
          case measure => omega
          case rel =>
            have ho := HO.out
            rw [HE.out] at ho
            exact ⟨x2, x3, _, ⟨by have := HL.out; rw [HE.out]; omega⟩, HV, HI0, HB, HK, ⟨ho⟩⟩
end Go.Proofs.Ytbfiacnmielajaa.P
namespace Go.Proofs.Ytbfiacnmielajaa.P
open Go.RowKit Go.Proofs.YtbfiacnmielajaaW.PrintWords Go.Proofs.YtbfiacnmielajaaW.PrintLast Go.Proofs.YtbfiacnmielajaaW.PrintMore
attribute [local go_sem] max2_int min2_int max_two min_two max_three min_three max_four min_four
set_option linter.unusedVariables false
set_option linter.unusedSimpArgs false
def labels_ParseMatchers.f (s : ByteArray) : Option (List S42 × Int) :=
  (labels_reader_all.f s false).bind fun v => if v.2.2 = true then some ([], 10) else
    (labels_CheckMatchers.f 3000 v.1).bind fun c => if c = 0 then some (v.1, 0) else some ([], 10)
set_option maxHeartbeats 8000000 in
set_option maxRecDepth 100000 in
theorem labels_ParseMatchers.calls (a0 : ByteArray) (r1 : List S42) (r2 : Int) (w : World) (h : labels_ParseMatchers.f a0 = some (r1, r2)) :
    Calls Try.prog 18 #[.string a0] w fun e w' => ∃ v0_ : Value, e = .returned (.tuple #[v0_, .int .i64 r2]) ∧ Kd.R k42 42 w' w.heap.size (fun _ => True) v0_ r1 ∧ Below w.heap.size w w' := by
  unfold labels_ParseMatchers.f at h
  replace h := Option.bind_eq_some_iff.mp h
  obtain ⟨⟨v1, v2, v3⟩, hv, h⟩ := h
  dsimp only at h
  have HV := Aside0.mk hv
  clear hv
  have HB := Aside0.mk (below_alloc (Below.refl w.heap.size w) (.cells #[.string a0, .bool false] 67))
  have HI := Aside0.mk (IsS67.new w w a0 false (Below.refl _ _))
  cases v3 with
  | true =>
    rw [if_pos rfl] at h
    simp only [Option.some.injEq, Prod.mk.injEq] at h
    obtain ⟨rfl, rfl⟩ := h
    go_enter Try.func18, Try.ntmps18
    go_wp2_with (go_at_call 33; ((with_reducible refine (labels_reader_all.calls w.heap.size a0 false v1 v2 _ w _ HI.out HB.out HV.out).mono ?_); rintro e w1 ⟨v0, rfl, hO, hI, hB, hK⟩; have HO : Aside0 (Kd.R k42 42 w1 w.heap.size (fun _ => True) v0 v1) := ⟨Kd.R_lower hO (by simp)⟩; replace HI := Aside0.mk hI; replace HB := Aside0.mk hB; obtain ⟨A_, c_, rfl, -⟩ := Kd.R_reads HO.out; clear hO hI hB hK; have hc1 := cellS67_1 HI.out.1))
    go_ret2
    exact ⟨_, rfl, Kd.R_nil _ _ _ _ _, HB.out⟩
  | false =>
    rw [if_neg (by decide)] at h
    replace h := Option.bind_eq_some_iff.mp h
    obtain ⟨c, hc, h⟩ := h
    have HC := Aside0.mk hc
    clear hc
    by_cases c0 : c = 0
    · rw [if_pos c0] at h
      subst c0
      simp only [Option.some.injEq, Prod.mk.injEq] at h
      obtain ⟨rfl, rfl⟩ := h
      go_enter Try.func18, Try.ntmps18
      go_wp2_with (first | (go_at_call 33; ((with_reducible refine (labels_reader_all.calls w.heap.size a0 false v1 v2 _ w _ HI.out HB.out HV.out).mono ?_); rintro e w1 ⟨v0, rfl, hO, hI, hB, hK⟩; have HO : Aside0 (Kd.R k42 42 w1 w.heap.size (fun _ => True) v0 v1) := ⟨Kd.R_lower hO (by simp)⟩; replace HI := Aside0.mk hI; replace HB := Aside0.mk hB; obtain ⟨A_, c_, rfl, -⟩ := Kd.R_reads HO.out; clear hO hI hB hK; have hc1 := cellS67_1 HI.out.1)) | (go_at_call 27; ((with_reducible refine (labels_CheckMatchers.calls 3000 A_ c_ v1 0 _ (Kd.R_reads' HO.out).2.2 (Kd.R_reads' HO.out).2.1 HC.out).mono ?_); rintro e w2 ⟨rfl, hb⟩; replace HO := Aside0.mk (Kd.R_below HO.out hb); replace HB := Aside0.mk (below_then HB.out HB.out.size hb); clear hb)))
      go_ret2
      exact ⟨_, rfl, HO.out, HB.out⟩
    · rw [if_neg c0] at h
      have d1 : (c != 0) = true := bne_iff_ne.2 c0
      simp only [Option.some.injEq, Prod.mk.injEq] at h
      obtain ⟨rfl, rfl⟩ := h
      go_enter Try.func18, Try.ntmps18
      go_wp2_with (first | (go_at_call 33; ((with_reducible refine (labels_reader_all.calls w.heap.size a0 false v1 v2 _ w _ HI.out HB.out HV.out).mono ?_); rintro e w1 ⟨v0, rfl, hO, hI, hB, hK⟩; have HO : Aside0 (Kd.R k42 42 w1 w.heap.size (fun _ => True) v0 v1) := ⟨Kd.R_lower hO (by simp)⟩; replace HI := Aside0.mk hI; replace HB := Aside0.mk hB; obtain ⟨A_, c_, rfl, -⟩ := Kd.R_reads HO.out; clear hO hI hB hK; have hc1 := cellS67_1 HI.out.1)) | (go_at_call 27; ((with_reducible refine (labels_CheckMatchers.calls 3000 A_ c_ v1 c _ (Kd.R_reads' HO.out).2.2 (Kd.R_reads' HO.out).2.1 HC.out).mono ?_); rintro e w2 ⟨rfl, hb⟩; replace HO := Aside0.mk (Kd.R_below HO.out hb); replace HB := Aside0.mk (below_then HB.out HB.out.size hb); clear hb)))
      go_ret2
      exact ⟨_, rfl, Kd.R_nil _ _ _ _ _, HB.out⟩
end Go.Proofs.Ytbfiacnmielajaa.P
namespace Go.Proofs.Ytbfiacnmielajaa.P
open Go.RowKit Go.Proofs.YtbfiacnmielajaaW.PrintWords Go.Proofs.YtbfiacnmielajaaW.PrintLast Go.Proofs.YtbfiacnmielajaaW.PrintMore
attribute [local go_sem] max2_int min2_int max_two min_two max_three min_three max_four min_four
set_option linter.unusedVariables false
set_option linter.unusedSimpArgs false
attribute [local go_sem high] leq_str gtr_str
def labels_Parse.l0 : Nat → List (S58) → List (S42) → Int → Int → Option ((List (S58)) × Int)
 | 0, _, _, _, _ => none
 | k + 1, x6, x17, x18, x19 => if x19 < x18 then (if 0 ≤ x19 then (if x19 < (x17.length : Int) then (if ((rd_T42 x17 x19).f0) = 0 then (if x6.length < 4398046511104 then (labels_Parse.l0 k (x6 ++ [(⟨(rd_T42 x17 x19).f1, (rd_T42 x17 x19).f2⟩ : S58)]) x17 x18 (wrap64 (x19 + 1))) else (none)) else (some (([] : List (S58)), 10))) else (none)) else (none)) else ((labels_Check.f k x6).bind fun t110 => (if t110 = 0 then (some (x6, 0)) else (some (([] : List (S58)), 10))))
def labels_Parse.f (k : Nat) (a0 : ByteArray) : Option ((List (S58)) × Int) := (labels_ParseMatchers.f a0).bind fun bt101 => (if bt101.2 = 0 then (labels_Parse.l0 k ([] : List (S58)) bt101.1 (bt101.1.length : Int) 0) else (some (([] : List (S58)), bt101.2)))
set_option maxHeartbeats 8000000 in
set_option maxRecDepth 100000 in
theorem labels_Parse.calls (k : Nat) (a0 : ByteArray) (r1 : List (S58)) (r2 : Int) (w : World) (h : labels_Parse.f k a0 = some (r1, r2)) :
  Calls Try.prog 15 #[.string a0] w fun e w' => ∃ v0_ : Value, e = .returned (.tuple #[v0_, .int .i64 r2]) ∧ Kd.R k58 58 w' w.heap.size (fun _ => True) v0_ r1 ∧ Below w.heap.size w w' := by
 have hu42 := Try.underlying42
 have hu58 := Try.underlying58
 have HB := Aside0.mk (Below.refl w.heap.size w)
 have H : ((labels_ParseMatchers.f a0).bind fun bt101 => (if bt101.2 = 0 then (labels_Parse.l0 k ([] : List (S58)) bt101.1 (bt101.1.length : Int) 0) else (some (([] : List (S58)), bt101.2)))) = some (r1, r2) := h
 clear h
 replace H := Option.bind_eq_some_iff.mp H
 obtain ⟨⟨t101, t102⟩, A20, H⟩ := H
 replace H : (if t102 = 0 then (labels_Parse.l0 k ([] : List (S58)) t101 (t101.length : Int) 0) else (some (([] : List (S58)), t102))) = some (r1, r2) := H
 have A2 := Aside0.mk A20
 clear A20
 by_cases c3 : t102 = 0
 ·rw [if_pos c3] at H
  have c3b0 : (t102 == 0) = true := beq_iff_eq.mpr c3
  have c3b1 : (t102 != 0) = false := bne_eq_false_iff_eq.mpr c3
  clear c3
  have H' := Aside0.mk H
  clear H
  go_enter Try.func15, Try.ntmps15
  go_wp2_with (first | ((with_reducible refine gate_callee (f := 18) rfl ?_); refine goesL_ (some 11) rfl rfl Try.func18 (by kernel_rfl) rfl #[.string a0] rfl (by (try simp only [List.map_toArray, List.map_cons, List.map_nil]); first | done | rfl | (simp only [List.length_drop, List.length_take]; rfl)) ?_; (with_reducible refine (labels_ParseMatchers.calls a0 t101 t102 _ A2.out).mono ?_); rintro e w4 ⟨v103, rfl, ho0, hb⟩; refine ⟨_, rfl, ?_⟩; have n0_ := Aside0.mk (Kd.R_lower ho0 (below_size (by repeat (first | (with_reducible first | exact HB.out | apply below_alloc | apply pw_below_drewN | apply below_drew1) | exact HB.out)))); have n1_ := Aside0.mk (below_step (by repeat (first | (with_reducible first | exact HB.out | apply below_alloc | apply pw_below_drewN | apply below_drew1) | exact HB.out)) hb); clear HB; have HO104 := n0_; have HB := n1_; clear n0_ n1_; (try clear hb); (try clear hb2); (try clear hk); (try clear hi); (try clear ho0); clear A2; obtain ⟨Ao5, co5, eo5⟩ := Kd.R_slice HO104.out; subst eo5))
  go_loopg [6, 19] k (fun kq v6 v19 w' => ∃ (x6_1 : List (S58)) (x19_1 : Int), v19 = .int .i64 x19_1 ∧ Aside0 (labels_Parse.l0 kq x6_1 t101 (t101.length : Int) x19_1 = some (r1, r2)) ∧ Aside0 (kq ≤ k) ∧ Aside0 (Kd.R k58 58 w' w.heap.size (fun _ => True) v6 x6_1) ∧ Aside0 (Kd.R k42 42 w' w.heap.size (fun _ => True) (.slice Ao5 t101.length co5) t101) ∧ Aside0 (Below w.heap.size w w'))
  case atStart => exact ⟨(([] : List (S58))), (0), (by first | rfl | (simp; done) | (simp [*]; done)), H', ⟨Nat.le_refl _⟩, ⟨by first | exact Kd.R_nil _ _ _ _ _ | exact Kd.N_nil _ _ _ _ _ | exact Kd.V_nil _ _ _ _ _ | exact Kd.Q_nil _ _ _ _ _ | exact Kd.S_nil _ _ _ _ _⟩, ⟨by (with_reducible repeat (first | apply Kd.R_alloc | apply Kd.R_drewN | apply Kd.R_drew)); exact HO104.out⟩, ⟨by repeat (first | (with_reducible first | exact HB.out | apply below_alloc | apply pw_below_drewN | apply below_drew1) | exact HB.out)⟩⟩
  case round =>
   clear H'
   try clear c1
   try clear p2
   try clear c3
   try clear c3b0
   try clear c3b1
   obtain ⟨x6_1, x19_1, rfl, HA, HK1, HO_6, HO_17, HB⟩ := hrel
   cases gk with
   | zero => exact absurd HA.out (by simp [labels_Parse.l0])
   | succ k1 =>
    have H := HA.out
    clear HA
    simp only [labels_Parse.l0] at H
    by_cases c6 : x19_1 < (t101.length : Int)
    ·rw [if_pos c6] at H
     have c6b0 : decide (x19_1 < (t101.length : Int)) = true := decide_eq_true c6
     clear c6
     by_cases c7 : 0 ≤ x19_1
     ·rw [if_pos c7] at H
      have c7b0 : decide (0 ≤ x19_1) = true := decide_eq_true c7
      clear c7
      by_cases c8 : x19_1 < (t101.length : Int)
      ·rw [if_pos c8] at H
       have c8b0 : decide (x19_1 < (t101.length : Int)) = true := decide_eq_true c8
       clear c8
       by_cases c9 : ((rd_T42 t101 x19_1).f0) = 0
       ·rw [if_pos c9] at H
        have c9b0 : (((rd_T42 t101 x19_1).f0) == 0) = true := beq_iff_eq.mpr c9
        have c9b1 : (((rd_T42 t101 x19_1).f0) != 0) = false := bne_eq_false_iff_eq.mpr c9
        clear c9
        by_cases c10 : x6_1.length < 4398046511104
        ·rw [if_pos c10] at H
         have LMc10 := Aside0.mk c10
         clear c10
         obtain ⟨y107, hy107⟩ : ∃ y_ : List (S58), y_ = (x6_1 ++ [(⟨(rd_T42 t101 x19_1).f1, (rd_T42 t101 x19_1).f2⟩ : S58)]) := ⟨_, rfl⟩
         replace H : (labels_Parse.l0 k1 y107 t101 (t101.length : Int) (wrap64 (x19_1 + 1))) = some (r1, r2) := by first | (rw [hy107]; with_reducible exact H) | (have H2_ := (Option.bind_some _ _).symm.trans H; rw [hy107]; with_reducible exact H2_) | (have H2_ := (Option.bind_some _ _).symm.trans H; with_reducible exact H2_) | with_reducible exact H | (rw [hy107]; exact H) | exact H
         have Ny107 := Aside0.mk hy107
         clear hy107
         have H' := Aside0.mk H
         clear H
         have p105 : 0 ≤ (x19_1 : Int) := of_decide_eq_true (by first | (with_reducible assumption) | assumption)
         have q105 : x19_1 < (t101.length : Int) := of_decide_eq_true (by first | (with_reducible assumption) | assumption)
         obtain ⟨ad105, e105, hx105_0, hx105_1, hx105_2⟩ := at_T42 (Kd.R_reads' HO_17.out).2.2 x19_1 p105 q105
         cases e105
         replace p105 := eq_true p105
         replace q105 := eq_true q105
         go_wp2_with (first | ((with_reducible refine gate_dst (N := 8) rfl ?_); refine box_event ?hg (N := 8) ?hd (cs := #[.int .i64 0, .string (⟨#[]⟩ : ByteArray), .string (⟨#[]⟩ : ByteArray)]) (t := 42) ?hr ?_; (case hd => rfl); (case hg => rfl); (case hr => first | (go_simp; done) | (go_simp; rfl)); intro gb106 hg w11 hbox hb; have n0_ := Aside0.mk (Kd.R_below (by (with_reducible repeat (first | apply Kd.R_alloc | apply Kd.R_drewN | apply Kd.R_drew)); exact HO_6.out) hb); have n1_ := Aside0.mk (Kd.R_below (Kd.R_elderB (by (with_reducible repeat (first | apply Kd.R_alloc | apply Kd.R_drewN | apply Kd.R_drew)); exact HO_17.out) gb106 (Nat.le_of_eq hg.symm)) hb); have n2_ := Aside0.mk (below_step (by repeat (first | (with_reducible first | exact HB.out | apply below_alloc | apply pw_below_drewN | apply below_drew1) | exact HB.out)) hb); have n3_ := Aside0.mk (hbox); have n4_ := Aside0.mk ((by rw [hg]; exact (below_size (by repeat (first | (with_reducible first | exact HB.out | apply below_alloc | apply pw_below_drewN | apply below_drew1) | exact HB.out))) : w.heap.size ≤ gb106)); have n5_ := Aside0.mk ((by rw [hg]; exact (below_size (by repeat (first | (with_reducible first | exact HB.out | apply below_alloc | apply pw_below_drewN | apply below_drew1) | exact HB.out))) : w.heap.size ≤ gb106)); clear HO_6; clear HO_17; clear HB; have HO_6 := n0_; have HO_17 := n1_; have HB := n2_; have BK106 := n3_; have GW106 := n4_; have GE106 := n5_; clear n0_ n1_ n2_ n3_ n4_ n5_; clear hb hbox hg; have hcz12_0 : w11.cell? ⟨gb106, 0, none⟩ = some (.int .i64 0) := (blk_cell BK106.out 0).trans rfl; have hcz12_1 : w11.cell? ⟨gb106, 1, none⟩ = some (.string (⟨#[]⟩ : ByteArray)) := (blk_cell BK106.out 1).trans rfl; have hcz12_2 : w11.cell? ⟨gb106, 2, none⟩ = some (.string (⟨#[]⟩ : ByteArray)) := (blk_cell BK106.out 2).trans rfl; have hfz12_0 := blk_frozen BK106.out 0; have hfz12_1 := blk_frozen BK106.out 1; have hfz12_2 := blk_frozen BK106.out 2) | ((with_reducible refine gate_builtin (b := .append) (xs := #[.tmp 26, .tmp 32]) rfl ?_); at_builtin; refine Kd.R_append k58 (w0 := w) w.heap.size rfl (.tmp 26) (.tmp 32) 22 58 (.agg #[(.string ⟨#[]⟩), (.string ⟨#[]⟩)]) 32 rfl Try.underlying22 info58 rfl (by decide) (by omega) u6 x6_1 (⟨(rd_T42 t101 x19_1).f1, (rd_T42 t101 x19_1).f2⟩ : S58) [.string ((rd_T42 t101 x19_1).f1), .string ((rd_T42 t101 x19_1).f2)] (fun _ => True) (fun _ => False) rfl (by first | (go_simp; done) | (go_simp; rfl)) ?aP (fun _ hk => hk.elim) ?aF ?aO ?aB ?aS ?aL ?_; (case aP => exact k58_mkM _ _ _ (⟨(rd_T42 t101 x19_1).f1, (rd_T42 t101 x19_1).f2⟩ : S58)); (case aB => exact (by repeat (first | (with_reducible first | exact HB.out | apply below_alloc | apply pw_below_drewN | apply below_drew1 | refine below_set ?_ GE106.out) | exact HB.out))); (case aF => exact (fun _ _ => trivial)); (case aO => exact (by (with_reducible repeat (first | apply Kd.R_alloc | apply Kd.R_drewN | apply Kd.R_drew)); exact Kd.R_mono (Kd.R_far (p := ⟨gb106, 2, none⟩) (Kd.R_far (p := ⟨gb106, 1, none⟩) (Kd.R_far (p := ⟨gb106, 0, none⟩) (Kd.R_types HO_6.out BK106.out (by decide)) (fun _ hk => hk.2) (.int .i64 ((rd_T42 t101 x19_1).f0))) (fun _ hk => hk.2) (.string ((rd_T42 t101 x19_1).f1))) (fun _ hk => hk.2) (.string ((rd_T42 t101 x19_1).f2))) (fun _ hk => trivial))); (case aS => exact (below_size (by repeat (first | (with_reducible first | exact HB.out | apply below_alloc | apply pw_below_drewN | apply below_drew1 | refine below_set ?_ GE106.out) | exact HB.out)))); (case aL => have := LMc10.out; omega); intro v108 w13 ho hb hg hat; rw [← Ny107.out] at ho; have n0_ := Aside0.mk (Kd.R_over' (by (with_reducible repeat (first | apply Kd.R_alloc | apply Kd.R_drewN | apply Kd.R_drew)); exact (Kd.R_mono (Kd.R_far (p := ⟨gb106, 2, none⟩) (Kd.R_far (p := ⟨gb106, 1, none⟩) (Kd.R_far (p := ⟨gb106, 0, none⟩) (Kd.R_mono HO_17.out (fun k_ hk => (⟨hk, hk.2⟩ : _ ∧ k_ ≠ gb106))) (fun _ hk => hk.2) (.int .i64 ((rd_T42 t101 x19_1).f0))) (fun _ hk => hk.2) (.string ((rd_T42 t101 x19_1).f1))) (fun _ hk => hk.2) (.string ((rd_T42 t101 x19_1).f2))) (fun _ h_ => h_.1))) (Kd.R_typed (by (with_reducible repeat (first | apply Kd.R_alloc | apply Kd.R_drewN | apply Kd.R_drew)); exact (Kd.R_mono (Kd.R_far (p := ⟨gb106, 2, none⟩) (Kd.R_far (p := ⟨gb106, 1, none⟩) (Kd.R_far (p := ⟨gb106, 0, none⟩) (Kd.R_types HO_6.out BK106.out (by decide)) (fun _ hk => hk.2) (.int .i64 ((rd_T42 t101 x19_1).f0))) (fun _ hk => hk.2) (.string ((rd_T42 t101 x19_1).f1))) (fun _ hk => hk.2) (.string ((rd_T42 t101 x19_1).f2))) (fun _ h_ => h_.1)))) (by decide) hg); have n1_ := Aside0.mk (blk_grown (g := gb106) (o := .cells #[.int .i64 ((rd_T42 t101 x19_1).f0), .string ((rd_T42 t101 x19_1).f1), .string ((rd_T42 t101 x19_1).f2)] 42 (0, 0)) (by (with_reducible repeat (first | refine blk_drewN ?_ _ | refine blk_drew ?_ | refine blk_alloc ?_ _)); refine blk_put (cs := #[.int .i64 ((rd_T42 t101 x19_1).f0), .string ((rd_T42 t101 x19_1).f1), .string (⟨#[]⟩ : ByteArray)]) ?_ 2 _ rfl; (with_reducible repeat (first | refine blk_drewN ?_ _ | refine blk_drew ?_ | refine blk_alloc ?_ _)); refine blk_put (cs := #[.int .i64 ((rd_T42 t101 x19_1).f0), .string (⟨#[]⟩ : ByteArray), .string (⟨#[]⟩ : ByteArray)]) ?_ 1 _ rfl; (with_reducible repeat (first | refine blk_drewN ?_ _ | refine blk_drew ?_ | refine blk_alloc ?_ _)); refine blk_put (cs := #[.int .i64 0, .string (⟨#[]⟩ : ByteArray), .string (⟨#[]⟩ : ByteArray)]) ?_ 0 _ rfl; (with_reducible repeat (first | refine blk_drewN ?_ _ | refine blk_drew ?_ | refine blk_alloc ?_ _)); exact BK106.out) hg (Kd.R_ne HO_6.out BK106.out (by decide))); have n2_ := Aside0.mk (hb); have n3_ := Aside0.mk (ho); clear HO_17; clear BK106; clear HB; clear HO_6; have HO_17 := n0_; have BK106 := n1_; have HB := n2_; have HO109 := n3_; clear n0_ n1_ n2_ n3_; clear ho hb hg hat))
         go_roundg k1
         case measure => have := HK1.out; omega
         case rel => exact ⟨(y107), (wrap64 (x19_1 + 1)), (by first | rfl | (simp; done) | (simp [*]; done)), H', ⟨by have := HK1.out; omega⟩, ⟨by (with_reducible repeat (first | apply Kd.R_alloc | apply Kd.R_drewN | apply Kd.R_drew)); exact HO109.out⟩, ⟨by (with_reducible repeat (first | apply Kd.R_alloc | apply Kd.R_drewN | apply Kd.R_drew)); exact Kd.R_mono HO_17.out (fun _ hk => trivial)⟩, ⟨by repeat (first | (with_reducible first | exact HB.out | apply below_alloc | apply pw_below_drewN | apply below_drew1 | refine below_set ?_ GE106.out) | exact HB.out)⟩⟩
        ·rw [if_neg c10] at H
         exact absurd H (by simp)
       ·rw [if_neg c9] at H
        have c9b0 : (((rd_T42 t101 x19_1).f0) == 0) = false := beq_eq_false_iff_ne.mpr c9
        have c9b1 : (((rd_T42 t101 x19_1).f0) != 0) = true := bne_iff_ne.mpr c9
        simp only [Option.some.injEq, Prod.mk.injEq] at H
        obtain ⟨rfl, rfl⟩ := H
        have p105 : 0 ≤ (x19_1 : Int) := of_decide_eq_true (by first | (with_reducible assumption) | assumption)
        have q105 : x19_1 < (t101.length : Int) := of_decide_eq_true (by first | (with_reducible assumption) | assumption)
        obtain ⟨ad105, e105, hx105_0, hx105_1, hx105_2⟩ := at_T42 (Kd.R_reads' HO_17.out).2.2 x19_1 p105 q105
        cases e105
        replace p105 := eq_true p105
        replace q105 := eq_true q105
        go_wp2_with (first | ((with_reducible refine gate_dst (N := 8) rfl ?_); refine box_event ?hg (N := 8) ?hd (cs := #[.int .i64 0, .string (⟨#[]⟩ : ByteArray), .string (⟨#[]⟩ : ByteArray)]) (t := 42) ?hr ?_; (case hd => rfl); (case hg => rfl); (case hr => first | (go_simp; done) | (go_simp; rfl)); intro gb106 hg w14 hbox hb; have n0_ := Aside0.mk (Kd.R_below (by (with_reducible repeat (first | apply Kd.R_alloc | apply Kd.R_drewN | apply Kd.R_drew)); exact HO_6.out) hb); have n1_ := Aside0.mk (Kd.R_below (Kd.R_elderB (by (with_reducible repeat (first | apply Kd.R_alloc | apply Kd.R_drewN | apply Kd.R_drew)); exact HO_17.out) gb106 (Nat.le_of_eq hg.symm)) hb); have n2_ := Aside0.mk (below_step (by repeat (first | (with_reducible first | exact HB.out | apply below_alloc | apply pw_below_drewN | apply below_drew1) | exact HB.out)) hb); have n3_ := Aside0.mk (hbox); have n4_ := Aside0.mk ((by rw [hg]; exact (below_size (by repeat (first | (with_reducible first | exact HB.out | apply below_alloc | apply pw_below_drewN | apply below_drew1) | exact HB.out))) : w.heap.size ≤ gb106)); have n5_ := Aside0.mk ((by rw [hg]; exact (below_size (by repeat (first | (with_reducible first | exact HB.out | apply below_alloc | apply pw_below_drewN | apply below_drew1) | exact HB.out))) : w.heap.size ≤ gb106)); clear HO_6; clear HO_17; clear HB; have HO_6 := n0_; have HO_17 := n1_; have HB := n2_; have BK106 := n3_; have GW106 := n4_; have GE106 := n5_; clear n0_ n1_ n2_ n3_ n4_ n5_; clear hb hbox hg; have hcz15_0 : w14.cell? ⟨gb106, 0, none⟩ = some (.int .i64 0) := (blk_cell BK106.out 0).trans rfl; have hcz15_1 : w14.cell? ⟨gb106, 1, none⟩ = some (.string (⟨#[]⟩ : ByteArray)) := (blk_cell BK106.out 1).trans rfl; have hcz15_2 : w14.cell? ⟨gb106, 2, none⟩ = some (.string (⟨#[]⟩ : ByteArray)) := (blk_cell BK106.out 2).trans rfl; have hfz15_0 := blk_frozen BK106.out 0; have hfz15_1 := blk_frozen BK106.out 1; have hfz15_2 := blk_frozen BK106.out 2))
        go_ret2
        exact ⟨_, by first | rfl | (simp [errW_none, errW_some] <;> rfl) | (simp [*, errW_none, errW_some] <;> rfl), by first | exact Kd.R_nil _ _ _ _ _ | exact Kd.N_nil _ _ _ _ _ | exact Kd.V_nil _ _ _ _ _ | exact Kd.Q_nil _ _ _ _ _ | exact Kd.S_nil _ _ _ _ _, by repeat (first | (with_reducible first | exact HB.out | apply below_alloc | apply pw_below_drewN | apply below_drew1 | refine below_set ?_ GE106.out) | exact HB.out)⟩
      ·rw [if_neg c8] at H
       exact absurd H (by simp)
     ·rw [if_neg c7] at H
      exact absurd H (by simp)
    ·rw [if_neg c6] at H
     have c6b0 : decide (x19_1 < (t101.length : Int)) = false := decide_eq_false c6
     clear c6
     replace H := Option.bind_eq_some_iff.mp H
     obtain ⟨t110, A160, H⟩ := H
     replace H : (if t110 = 0 then (some (x6_1, 0)) else (some (([] : List (S58)), 10))) = some (r1, r2) := H
     have A16 := Aside0.mk A160
     clear A160
     by_cases c17 : t110 = 0
     ·rw [if_pos c17] at H
      have c17b0 : (t110 == 0) = true := beq_iff_eq.mpr c17
      have c17b1 : (t110 != 0) = false := bne_eq_false_iff_eq.mpr c17
      clear c17
      simp only [Option.some.injEq, Prod.mk.injEq] at H
      obtain ⟨rfl, rfl⟩ := H
      obtain ⟨Ao18, co18, eo18⟩ := Kd.R_slice HO_6.out
      subst eo18
      go_wp2_with (first | ((with_reducible refine gate_callee (f := 14) rfl ?_); refine goesL_ (some 36) rfl rfl Try.func14 (by kernel_rfl) rfl #[.slice Ao18 x6_1.length co18] rfl (by (try simp only [List.map_toArray, List.map_cons, List.map_nil]); first | done | rfl | (simp only [List.length_drop, List.length_take]; rfl)) ?_; (with_reducible refine (labels_Check.calls k1 _ _ x6_1 t110 _ ?side1 ?side2 A16.out).mono ?_); (case side1 => repeat (first | exact (Kd.R_reads' HO_6.out).2.2 | (with_reducible refine Kd.C_alloc ?_ _) | (with_reducible refine Kd.C_drewN ?_ _) | (with_reducible refine Kd.C_drew ?_))); (case side2 => exact (Kd.R_reads' HO_6.out).2.1); rintro e w19 ⟨rfl, hb⟩; refine ⟨_, rfl, ?_⟩; have n0_ := Aside0.mk (Kd.R_below (by (with_reducible repeat (first | apply Kd.R_alloc | apply Kd.R_drewN | apply Kd.R_drew)); exact HO_6.out) hb); have n1_ := Aside0.mk (Kd.R_below (by (with_reducible repeat (first | apply Kd.R_alloc | apply Kd.R_drewN | apply Kd.R_drew)); exact HO_17.out) hb); have n2_ := Aside0.mk (below_step (by repeat (first | (with_reducible first | exact HB.out | apply below_alloc | apply pw_below_drewN | apply below_drew1) | exact HB.out)) hb); clear HO_6; clear HO_17; clear HB; have HO_6 := n0_; have HO_17 := n1_; have HB := n2_; clear n0_ n1_ n2_; (try clear hb); (try clear hb2); (try clear hk); (try clear hi); clear A16))
      go_ret2
      exact ⟨_, by first | rfl | (simp [errW_none, errW_some] <;> rfl) | (simp [*, errW_none, errW_some] <;> rfl), by (with_reducible repeat (first | apply Kd.R_alloc | apply Kd.R_drewN | apply Kd.R_drew)); exact HO_6.out, by repeat (first | (with_reducible first | exact HB.out | apply below_alloc | apply pw_below_drewN | apply below_drew1) | exact HB.out)⟩
     ·rw [if_neg c17] at H
      have c17b0 : (t110 == 0) = false := beq_eq_false_iff_ne.mpr c17
      have c17b1 : (t110 != 0) = true := bne_iff_ne.mpr c17
      simp only [Option.some.injEq, Prod.mk.injEq] at H
      obtain ⟨rfl, rfl⟩ := H
      obtain ⟨Ao20, co20, eo20⟩ := Kd.R_slice HO_6.out
      subst eo20
      go_wp2_with (first | ((with_reducible refine gate_callee (f := 14) rfl ?_); refine goesL_ (some 36) rfl rfl Try.func14 (by kernel_rfl) rfl #[.slice Ao20 x6_1.length co20] rfl (by (try simp only [List.map_toArray, List.map_cons, List.map_nil]); first | done | rfl | (simp only [List.length_drop, List.length_take]; rfl)) ?_; (with_reducible refine (labels_Check.calls k1 _ _ x6_1 t110 _ ?side1 ?side2 A16.out).mono ?_); (case side1 => repeat (first | exact (Kd.R_reads' HO_6.out).2.2 | (with_reducible refine Kd.C_alloc ?_ _) | (with_reducible refine Kd.C_drewN ?_ _) | (with_reducible refine Kd.C_drew ?_))); (case side2 => exact (Kd.R_reads' HO_6.out).2.1); rintro e w21 ⟨rfl, hb⟩; refine ⟨_, rfl, ?_⟩; have n0_ := Aside0.mk (Kd.R_below (by (with_reducible repeat (first | apply Kd.R_alloc | apply Kd.R_drewN | apply Kd.R_drew)); exact HO_6.out) hb); have n1_ := Aside0.mk (Kd.R_below (by (with_reducible repeat (first | apply Kd.R_alloc | apply Kd.R_drewN | apply Kd.R_drew)); exact HO_17.out) hb); have n2_ := Aside0.mk (below_step (by repeat (first | (with_reducible first | exact HB.out | apply below_alloc | apply pw_below_drewN | apply below_drew1) | exact HB.out)) hb); clear HO_6; clear HO_17; clear HB; have HO_6 := n0_; have HO_17 := n1_; have HB := n2_; clear n0_ n1_ n2_; (try clear hb); (try clear hb2); (try clear hk); (try clear hi); clear A16))
      go_ret2
      exact ⟨_, by first | rfl | (simp [errW_none, errW_some] <;> rfl) | (simp [*, errW_none, errW_some] <;> rfl), by first | exact Kd.R_nil _ _ _ _ _ | exact Kd.N_nil _ _ _ _ _ | exact Kd.V_nil _ _ _ _ _ | exact Kd.Q_nil _ _ _ _ _ | exact Kd.S_nil _ _ _ _ _, by repeat (first | (with_reducible first | exact HB.out | apply below_alloc | apply pw_below_drewN | apply below_drew1) | exact HB.out)⟩
 ·rw [if_neg c3] at H
  have c3b0 : (t102 == 0) = false := beq_eq_false_iff_ne.mpr c3
  have c3b1 : (t102 != 0) = true := bne_iff_ne.mpr c3
  simp only [Option.some.injEq, Prod.mk.injEq] at H
  obtain ⟨rfl, rfl⟩ := H
  go_enter Try.func15, Try.ntmps15
  go_wp2_with (first | ((with_reducible refine gate_callee (f := 18) rfl ?_); refine goesL_ (some 11) rfl rfl Try.func18 (by kernel_rfl) rfl #[.string a0] rfl (by (try simp only [List.map_toArray, List.map_cons, List.map_nil]); first | done | rfl | (simp only [List.length_drop, List.length_take]; rfl)) ?_; (with_reducible refine (labels_ParseMatchers.calls a0 t101 t102 _ A2.out).mono ?_); rintro e w22 ⟨v103, rfl, ho0, hb⟩; refine ⟨_, rfl, ?_⟩; have n0_ := Aside0.mk (Kd.R_lower ho0 (below_size (by repeat (first | (with_reducible first | exact HB.out | apply below_alloc | apply pw_below_drewN | apply below_drew1) | exact HB.out)))); have n1_ := Aside0.mk (below_step (by repeat (first | (with_reducible first | exact HB.out | apply below_alloc | apply pw_below_drewN | apply below_drew1) | exact HB.out)) hb); clear HB; have HO104 := n0_; have HB := n1_; clear n0_ n1_; (try clear hb); (try clear hb2); (try clear hk); (try clear hi); (try clear ho0); clear A2))
  go_ret2
  exact ⟨_, by first | rfl | (simp [errW_none, errW_some] <;> rfl) | (simp [*, errW_none, errW_some] <;> rfl), by first | exact Kd.R_nil _ _ _ _ _ | exact Kd.N_nil _ _ _ _ _ | exact Kd.V_nil _ _ _ _ _ | exact Kd.Q_nil _ _ _ _ _ | exact Kd.S_nil _ _ _ _ _, by repeat (first | (with_reducible first | exact HB.out | apply below_alloc | apply pw_below_drewN | apply below_drew1) | exact HB.out)⟩
end Go.Proofs.Ytbfiacnmielajaa.P
namespace Go.Proofs.Ytbfiacnmielajaa.P
open Go.RowKit Go.Proofs.YtbfiacnmielajaaW.PrintWords Go.Proofs.YtbfiacnmielajaaW.PrintLast Go.Proofs.YtbfiacnmielajaaW.PrintMore
attribute [local go_sem] max2_int min2_int max_two min_two max_three min_three max_four min_four
set_option linter.unusedVariables false
set_option linter.unusedSimpArgs false
theorem index_one (c : UInt8) : ∀ s : List UInt8, Lib.index s [c] = Lib.indexByte s c
  | [] => rfl
  | a :: s => by
    have ih := index_one c s
    simp only [Lib.index, Lib.indexByte]
    rw [ih]
    by_cases h : a = c
    · subst h; simp [List.isPrefixOf]
    · simp [List.isPrefixOf, h, Ne.symm h]
def holdsB (s t : ByteArray) : Bool := Lib.contains s.data.toList t.data.toList
def hpB (s t : ByteArray) : Bool := (strings_HasPrefix.f s t).getD false
theorem hpB_eq (s t : ByteArray) : strings_HasPrefix.f s t = some (hpB s t) := by
  unfold hpB strings_HasPrefix.f stringslite_HasPrefix.f
  by_cases h : (s.size : Int) ≥ (t.size : Int)
  · rw [if_pos h, if_pos (by omega), if_pos (by omega)]; rfl
  · rw [if_neg h]; rfl
def GMax (w : World) : Prop := ∃ m, w.cell? ⟨lay144_ren.g 1, 0, none⟩ = some (.int .i64 m)
theorem GMax.below {w w' : World} (h : GMax w) (hb : Below w.heap.size w w') : GMax w' := by
  obtain ⟨m, h⟩ := h
  exact ⟨m, (hb.cell (World.block_lt_of_cell? _ _ h)).trans h⟩
def OkH (k : Int) (t v : ByteArray) (w : World) : Prop := k = 3 → (∃ c, t = ⟨#[c]⟩) ∨ (v.size < 4294967281 ∧ GMax w)
theorem OkH.below {k : Int} {t v : ByteArray} {w w' : World} (h : OkH k t v w) (hb : Below w.heap.size w w') : OkH k t v w' := fun hk => (h hk).imp id (fun x => ⟨x.1, x.2.below hb⟩)
theorem contains_c (s t : ByteArray) (w : World) (h : (∃ c, t = ⟨#[c]⟩) ∨ (s.size < 4294967281 ∧ GMax w)) : Calls Try.prog 51 #[.string s, .string t] w fun e w' => e = .returned (.bool (holdsB s t)) ∧ w = w' := by
  rcases h with ⟨c, rfl⟩ | ⟨h1, m, h2⟩
  · refine (Any.strings_Contains_one lay144 s c w).mono fun e w' h => ⟨?_, h.2.symm⟩
    rw [h.1]
    unfold holdsB Lib.contains
    rw [← index_one]
  · exact (Any.strings_Contains lay144 s t m w h1 h2).mono fun e w' h => ⟨h.1, h.2.symm⟩
def fitsR (k : Int) (t v : ByteArray) : Bool := if k = 0 then v.toList == t.toList else if k = 1 then !(v.toList == t.toList) else if k = 2 then hpB v t else if k = 3 then holdsB v t else false
set_option maxHeartbeats 8000000 in
set_option maxRecDepth 100000 in
theorem fits_c (k : Int) (n t v : ByteArray) (w : World) (hok : OkH k t v w) : Calls Try.prog 36 #[.agg #[.int .i64 k, .string n, .string t], .string v] w fun e w' => e = .returned (.bool (fitsR k t v)) ∧ Below w.heap.size w w' := by
  have hu := Try.underlying42
  have HB := Aside0.mk (below_alloc (Below.refl w.heap.size w) (.cells #[.int .i64 k, .string n, .string t] 42))
  have HO := Aside0.mk (hok.below HB.out)
  clear hok
  unfold fitsR
  by_cases k0 : k = 0
  · subst k0
    rw [if_pos rfl]
    go_enter Try.func36, Try.ntmps36
    go_wp2
    go_ret
    exact ⟨rfl, HB.out⟩
  have e0 : (k == 0) = false := beq_eq_false_iff_ne.2 k0
  rw [if_neg k0]
  by_cases k1 : k = 1
  · subst k1
    rw [if_pos rfl]
    clear k0 e0
    go_enter Try.func36, Try.ntmps36
    go_wp2
    go_ret
    exact ⟨rfl, HB.out⟩
  have e1 : (k == 1) = false := beq_eq_false_iff_ne.2 k1
  rw [if_neg k1]
  by_cases k2 : k = 2
  · subst k2
    rw [if_pos rfl]
    clear k0 e0 k1 e1
    have HP := Aside0.mk (hpB_eq v t)
    go_enter Try.func36, Try.ntmps36
    go_wp2_with (go_at_call 46; (with_reducible refine (strings_HasPrefix.calls v t _ _ HP.out).mono ?_); rintro e w' ⟨rfl, ⟨nd, rfl⟩⟩)
    go_ret
    exact ⟨rfl, pw_below_drewN HB.out _⟩
  have e2 : (k == 2) = false := beq_eq_false_iff_ne.2 k2
  rw [if_neg k2]
  by_cases k3 : k = 3
  · have HC := Aside0.mk (contains_c v t _ (HO.out k3))
    subst k3
    rw [if_pos rfl]
    clear k0 e0 k1 e1 k2 e2 HO
    go_enter Try.func36, Try.ntmps36
    go_wp2_with (go_at_call 51; (with_reducible refine HC.out.mono ?_); rintro e w' ⟨rfl, rfl⟩)
    go_ret
    exact ⟨rfl, HB.out⟩
  have e3 : (k == 3) = false := beq_eq_false_iff_ne.2 k3
  rw [if_neg k3]
  clear k0 k1 k2 k3 HO
  go_enter Try.func36, Try.ntmps36
  go_wp2
  go_ret
  exact ⟨rfl, HB.out⟩
theorem rdL_nat9 (l : List S58) (i : Nat) (h : i < l.length) : rd_T58 l (i : Int) = l[i] := by unfold rd_T58; simp [List.getD, h]
def getP : List S58 → ByteArray → ByteArray × Bool
  | [], _ => (⟨#[]⟩, false)
  | x :: l, n => if x.f0.toList == n.toList then (x.f1, true) else getP l n
theorem get_l0 (n : ByteArray) (l : List S58) (hl : l.length ≤ 1000000) : ∀ (d k i : Nat), i + d = l.length → d < k → labels_Get.l0 k n l (l.length : Int) (i : Int) = some (getP (l.drop i) n) := by
  intro d
  induction d with
  | zero =>
    intro k i hi hk
    obtain ⟨k, rfl⟩ : ∃ m, k = m + 1 := ⟨k - 1, by omega⟩
    simp only [labels_Get.l0]
    rw [if_neg (by omega), List.drop_of_length_le (by omega)]
    rfl
  | succ d ih =>
    intro k i hi hk
    obtain ⟨k, rfl⟩ : ∃ m, k = m + 1 := ⟨k - 1, by omega⟩
    have hw : wrap64 ((i : Int) + 1) = ((i + 1 : Nat) : Int) := by unfold wrap64; omega
    simp only [labels_Get.l0]
    rw [if_pos (by omega), if_pos (by omega), if_pos (by omega), hw, ih k (i + 1) (by omega) (by omega), rdL_nat9 l i (by omega), List.drop_eq_getElem_cons (show i < l.length by omega)]
    simp only [getP]
    by_cases h : (l[i]'(show i < l.length by omega)).f0.toList = n.toList
    · rw [if_pos h, if_pos (beq_iff_eq.2 h)]
    · rw [if_neg h, if_neg (fun e => h (beq_iff_eq.1 e))]
theorem get_eq (l : List S58) (n : ByteArray) (hl : l.length ≤ 1000000) (k : Nat) (hk : l.length < k) : labels_Get.f k l n = some (getP l n) := by
  unfold labels_Get.f
  rw [show (0 : Int) = ((0 : Nat) : Int) from rfl, get_l0 n l hl l.length k 0 (by omega) hk]
  rfl
def missB (l : List S58) (x : S42) : Bool := !(fitsR x.f0 x.f2 (getP l x.f1).1)
def matchR (l : List S58) (m : List S42) : Bool := m.all fun x => !(missB l x)
set_option maxHeartbeats 8000000 in
set_option maxRecDepth 100000 in
theorem miss_c (l : List S58) (hl : l.length ≤ 1000000) (x : S42) (A : Option Addr) (c b : Nat) (w : World) (hr : Kd.C k58 w A l.length l) (hc : l.length ≤ c) (hb : w.cell? ⟨b, 0, none⟩ = some (.slice A l.length c)) (hok : OkH x.f0 x.f2 (getP l x.f1).1 w) :
    Calls Try.prog 35 #[.agg #[.int .i64 x.f0, .string x.f1, .string x.f2], .pointer (some ⟨b, 0, none⟩)] w fun e w' => e = .returned (.bool (missB l x)) ∧ Below w.heap.size w w' := by
  obtain ⟨k, n, t⟩ := x
  dsimp only at hok ⊢
  unfold missB
  dsimp only
  have hu := Try.underlying42
  have HB := Aside0.mk (below_alloc (Below.refl w.heap.size w) (.cells #[.int .i64 k, .string n, .string t] 42))
  have BX := Aside0.mk (blk_new w (.cells #[.int .i64 k, .string n, .string t] 42))
  have hb' := (HB.out.cell (World.block_lt_of_cell? _ _ hb)).trans hb
  have HR := Aside0.mk (Kd.C_below hr HB.out)
  have HO := Aside0.mk (hok.below HB.out)
  have HG := Aside0.mk (get_eq l n hl (l.length + 1) (by omega))
  clear hr hb hok
  generalize getP l n = pr at HO HG ⊢
  obtain ⟨v, q⟩ := pr
  dsimp only at HO HG ⊢
  have hc0 := blk_cell BX.out 0
  have hc1 := blk_cell BX.out 1
  have hc2 := blk_cell BX.out 2
  go_enter Try.func35, Try.ntmps35
  go_wp2_with (first | (go_at_call 20; ((with_reducible refine (labels_Get.calls (l.length + 1) A c l n v q _ HR.out hc HG.out).mono ?_); rintro e w1 ⟨rfl, hb⟩; replace HB := Aside0.mk (below_then HB.out HB.out.size hb); replace HO := Aside0.mk (HO.out.below hb); replace BX := Aside0.mk (blk_below BX.out hb); clear hb; have hd0 := blk_cell BX.out 0; have hd1 := blk_cell BX.out 1; have hd2 := blk_cell BX.out 2)) | (go_at_call 36; ((with_reducible refine (fits_c k n t v _ HO.out).mono ?_); rintro e w2 ⟨rfl, hb⟩; replace HB := Aside0.mk (below_then HB.out HB.out.size hb); clear hb)))
  go_ret
  exact ⟨rfl, HB.out⟩
theorem rdM_nat9 (l : List S42) (i : Nat) (h : i < l.length) : rd_T42 l (i : Int) = l[i] := by unfold rd_T42; simp [List.getD, h]
def idxM (p : S42 → Bool) : Nat → List S42 → Int
  | _, [] => -1
  | i, x :: l => if p x then (i : Int) else idxM p (i + 1) l
set_option maxHeartbeats 8000000 in
set_option maxRecDepth 100000 in
theorem indexFunc_c (g : Nat) (cap : Array Value) (p : S42 → Bool) (A : Option Addr) (c : Nat) (l : List S42) (w : World) (hr : Kd.C k42 w A l.length l) (hc : l.length ≤ c)
    (hp : ∀ (W : World) (x : S42), x ∈ l → Below w.heap.size w W → Calls Try.prog g (#[.agg #[.int .i64 x.f0, .string x.f1, .string x.f2]] ++ cap) W fun e w' => e = .returned (.bool (p x)) ∧ Below W.heap.size W w') (eg : ∀ args w, (callFunc g args).run Try.prog w = .ok (.enter g args) w) :
    Calls Try.prog 50 #[.slice A l.length c, .func (.func g) #[] cap] w fun e w' => e = .returned (.int .i64 (idxM p 0 l)) ∧ Below w.heap.size w w' := by
  have hu := Try.underlying42
  have hm : l.length ≤ 9223372036854775807 := hr.2.1
  have HR := Aside0.mk hr
  have HP := Aside0.mk hp
  clear hr hp
  go_enter Try.func50, Try.ntmps50
  go_wp2
  go_loopg [5, 8] l.length (fun gg _ s8 wr => ∃ kk : Nat, kk + gg = l.length ∧ s8 = .int .i64 kk ∧ Aside0 (Below w.heap.size w wr) ∧ Aside0 (idxM p kk (l.drop kk) = idxM p 0 l))
  case atStart => exact ⟨0, by omega, rfl, ⟨Below.refl _ w⟩, ⟨rfl⟩⟩
  case round =>
    obtain ⟨kk, hg, rfl, HB, HA⟩ := hrel
    by_cases hlt : kk < l.length
    · have hlti : (kk : Int) < (l.length : Int) := by omega
      obtain ⟨g1, rfl⟩ : ∃ m, gk = m + 1 := ⟨gk - 1, by omega⟩
      have ha := HA.out
      rw [List.drop_eq_getElem_cons hlt] at ha
      simp only [idxM] at ha
      obtain ⟨ad, e1, hx0, hx1, hx2⟩ := at_T42 HR.out kk (by omega) (by omega)
      cases e1
      replace hx0 := (HB.out.cell (World.block_lt_of_cell? w _ hx0)).trans hx0
      replace hx1 := (HB.out.cell (World.block_lt_of_cell? w _ hx1)).trans hx1
      replace hx2 := (HB.out.cell (World.block_lt_of_cell? w _ hx2)).trans hx2
      rw [rdM_nat9 l kk hlt, Int.toNat_natCast] at hx0 hx1 hx2
      have hcall := HP.out wr l[kk] (List.getElem_mem hlt) HB.out
      generalize l[kk] = y at hx0 hx1 hx2 hcall ha
      clear HA
      cases hq : p y with
      | true =>
        rw [hq] at hcall ha
        rw [if_pos rfl] at ha
        have HA := Aside0.mk ha
        have HC := Aside0.mk hcall
        clear hcall ha hq
        go_wp2_with (go_at_fn g; refine HC.out.mono ?_; rintro e w' ⟨rfl, hb'⟩)
        go_ret
        exact ⟨by rw [← HA.out]; rfl, HB.out.trans (hb'.mono HB.out.size)⟩
      | false =>
        rw [hq] at hcall ha
        rw [if_neg (by decide)] at ha
        have HA := Aside0.mk ha
        have HC := Aside0.mk hcall
        clear hcall ha hq
        go_wp2_with (go_at_fn g; refine HC.out.mono ?_; rintro e w' ⟨rfl, hb'⟩)
        go_roundg g1
        case measure => omega
        case rel => exact ⟨kk + 1, by omega, by go_num, ⟨HB.out.trans (hb'.mono HB.out.size)⟩, HA⟩
    · have hlti : ¬ (kk : Int) < (l.length : Int) := by omega
      have ha := HA.out
      rw [List.drop_of_length_le (by omega)] at ha
      have HA := Aside0.mk ha
      clear ha
      go_wp2
      go_ret
      exact ⟨by rw [← HA.out]; rfl, HB.out⟩
theorem idxM_any (p : S42 → Bool) : ∀ (l : List S42) (i : Nat), 0 ≤ idxM p i l ↔ l.any p = true
  | [], _ => by simp [idxM]
  | x :: l, i => by
    unfold idxM
    rw [List.any_cons]
    by_cases h : p x = true
    · rw [if_pos h, h]; simp
    · rw [if_neg h, Bool.eq_false_iff.2 h, Bool.false_or]; exact idxM_any p l (i + 1)
set_option maxHeartbeats 8000000 in
set_option maxRecDepth 100000 in
theorem match_c (A0 : Option Addr) (c0 : Nat) (l0 : List S58) (A1 : Option Addr) (c1 : Nat) (l1 : List S42) (w : World) (hl : l0.length ≤ 1000000) (hr0 : Kd.C k58 w A0 l0.length l0) (hc0 : l0.length ≤ c0) (hr1 : Kd.C k42 w A1 l1.length l1) (hc1 : l1.length ≤ c1) (hok : ∀ x ∈ l1, OkH x.f0 x.f2 (getP l0 x.f1).1 w) :
    Calls Try.prog 22 #[.slice A0 l0.length c0, .slice A1 l1.length c1] w fun e w' => e = .returned (.bool (matchR l0 l1)) ∧ Below w.heap.size w w' := by
  have hb := below_alloc (Below.refl w.heap.size w) (.cells #[.slice A0 l0.length c0] 22)
  have hbx := blk_new w (.cells #[.slice A0 l0.length c0] 22)
  have hi := indexFunc_c 35 #[.pointer (some ⟨w.heap.size, 0, none⟩)] (missB l0) A1 c1 l1 (w.alloc (.cells #[.slice A0 l0.length c0] 22)) (Kd.C_below hr1 hb) hc1
    (fun W x hx hbW => miss_c l0 hl x A0 c0 w.heap.size W (Kd.C_below (Kd.C_below hr0 hb) hbW) hc0 ((hbW.cell (World.block_lt_of_cell? _ _ ((blk_cell hbx 0).trans rfl))).trans ((blk_cell hbx 0).trans rfl)) (((hok x hx).below hb).below hbW)) (enters_of Try.func35 (by kernel_rfl) rfl)
  have ha : decide (0 ≤ idxM (missB l0) 0 l1) = l1.any (missB l0) := by rw [Bool.eq_iff_iff, decide_eq_true_iff]; exact idxM_any _ _ _
  have hm : matchR l0 l1 = !(l1.any (missB l0)) := by unfold matchR; rw [List.any_eq_not_all_not]; simp
  rw [hm, ← ha]
  have HI := Aside0.mk hi
  have HB := Aside0.mk hb
  clear hi hb hbx hok hr0 hr1 ha hm
  go_enter Try.func22, Try.ntmps22
  go_wp2_with (first | (go_at_call 50; ((with_reducible refine HI.out.mono ?_); rintro e w1 ⟨rfl, hb⟩; replace HB := Aside0.mk (below_then HB.out HB.out.size hb); clear hb)) | go_in)
  go_ret
  exact ⟨rfl, HB.out⟩
theorem byte1 (t : ByteArray) (h : t.size = 1) : ∃ c, t = ⟨#[c]⟩ := by
  obtain ⟨a⟩ := t
  obtain ⟨l⟩ := a
  have h' : l.length = 1 := h
  match l, h' with
  | [c], _ => exact ⟨c, rfl⟩
def labels_Match.f (l : List S58) (m : List S42) : Option Bool := if l.length ≤ 1000000 ∧ ∀ x ∈ m, x.f0 = 3 → x.f2.size = 1 then some (matchR l m) else none
theorem labels_Match.calls (A0 : Option Addr) (c0 : Nat) (l0 : List S58) (A1 : Option Addr) (c1 : Nat) (l1 : List S42) (r : Bool) (w : World) (hr0 : Kd.C k58 w A0 l0.length l0) (hc0 : l0.length ≤ c0) (hr1 : Kd.C k42 w A1 l1.length l1) (hc1 : l1.length ≤ c1) (h : labels_Match.f l0 l1 = some r) :
    Calls Try.prog 22 #[.slice A0 l0.length c0, .slice A1 l1.length c1] w fun e w' => e = .returned (.bool r) ∧ Below w.heap.size w w' := by
  unfold labels_Match.f at h
  by_cases hs : l0.length ≤ 1000000 ∧ ∀ x ∈ l1, x.f0 = 3 → x.f2.size = 1
  rotate_left
  · rw [if_neg hs] at h; cases h
  rw [if_pos hs] at h
  injection h with h
  subst h
  exact match_c A0 c0 l0 A1 c1 l1 w hs.1 hr0 hc0 hr1 hc1 (fun x hx hk => .inl (byte1 _ (hs.2 x hx hk)))
end Go.Proofs.Ytbfiacnmielajaa.P
namespace Go.Proofs.Ytbfiacnmielajaa.P
open Go.RowKit Go.Proofs.YtbfiacnmielajaaW.PrintWords Go.Proofs.YtbfiacnmielajaaW.PrintLast Go.Proofs.YtbfiacnmielajaaW.PrintMore
attribute [local go_sem] max2_int min2_int max_two min_two max_three min_three max_four min_four
set_option linter.unusedVariables false
set_option linter.unusedSimpArgs false
def cmpB (a b : ByteArray) : Int := Lib.compareBytes a.data.toList b.data.toList
theorem strCmp_c (a b : ByteArray) (w : World) : Calls Try.prog 41 #[.string a, .string b] w fun e w' => e = .returned (.int .i64 (cmpB a b)) ∧ w = w' :=
  (Any.strings_Compare lay106 a b w).mono fun e w' h => ⟨h.1, h.2.symm⟩
def or2 (a b : Int) : Int := if a = 0 then b else a
set_option maxHeartbeats 4000000 in
set_option maxRecDepth 100000 in
theorem or2_c (a b : Int) (blk c : Nat) (w : World) (h0 : w.cell? ⟨blk, 0, none⟩ = some (.int .i64 a)) (h1 : w.cell? ⟨blk, 1, none⟩ = some (.int .i64 b)) (hc : 2 ≤ c) :
    Calls Try.prog 40 #[.slice (some ⟨blk, 0, none⟩) 2 c] w fun e w' => e = .returned (.int .i64 (or2 a b)) ∧ w = w' := by
  unfold or2
  by_cases ha : a = 0
  · rw [if_pos ha]
    subst ha
    by_cases hb : b = 0
    · subst hb
      go_enter Try.func40, Try.ntmps40
      go_wp2
      go_loopg [8, 5] 2 (fun gg v8 _ wr => ∃ (x : Int), x + (gg : Int) = 2 ∧ 0 ≤ x ∧ x ≤ 2 ∧ v8 = .int .i64 x ∧ w = wr)
      case atStart => exact ⟨0, by omega, by omega, by omega, rfl, rfl⟩
      case round =>
        obtain ⟨x, hi, hx, hl, rfl, rfl⟩ := hrel
        cases gk with
        | zero =>
          obtain rfl : x = 2 := by omega
          clear hx hi hl
          go_wp2
          go_ret
          exact ⟨rfl, rfl⟩
        | succ g =>
          obtain rfl | rfl : x = 0 ∨ x = 1 := by omega
          · clear hx hl
            go_wp2
            go_roundg g
            case measure => omega
            case rel => exact ⟨_, by omega, by omega, by omega, rfl, rfl⟩
          · clear hx hl
            go_wp2
            go_roundg g
            case measure => omega
            case rel => exact ⟨_, by omega, by omega, by omega, rfl, rfl⟩
    · have hb' : (b != 0) = true := bne_iff_ne.2 hb
      go_enter Try.func40, Try.ntmps40
      go_wp2
      go_loopg [8, 5] 2 (fun gg v8 _ wr => ∃ (x : Int), x + (gg : Int) = 2 ∧ 0 ≤ x ∧ x ≤ 1 ∧ v8 = .int .i64 x ∧ w = wr)
      case atStart => exact ⟨0, by omega, by omega, by omega, rfl, rfl⟩
      case round =>
        obtain ⟨x, hi, hx, hl, rfl, rfl⟩ := hrel
        cases gk with
        | zero => exact absurd hl (by omega)
        | succ g =>
          obtain rfl | rfl : x = 0 ∨ x = 1 := by omega
          · clear hx hl
            go_wp2
            go_roundg g
            case measure => omega
            case rel => exact ⟨_, by omega, by omega, by omega, rfl, rfl⟩
          · clear hx hl
            go_wp2
            go_ret
            exact ⟨rfl, rfl⟩
  · rw [if_neg ha]
    have ha' : (a != 0) = true := bne_iff_ne.2 ha
    go_enter Try.func40, Try.ntmps40
    go_wp2
    go_loopg [8, 5] 2 (fun gg v8 _ wr => ∃ (x : Int), x + (gg : Int) = 2 ∧ 0 ≤ x ∧ x ≤ 0 ∧ v8 = .int .i64 x ∧ w = wr)
    case atStart => exact ⟨0, by omega, by omega, by omega, rfl, rfl⟩
    case round =>
      obtain ⟨x, hi, hx, hl, rfl, rfl⟩ := hrel
      cases gk with
      | zero => exact absurd hl (by omega)
      | succ g =>
        obtain rfl | rfl : x = 0 ∨ x = 1 := by omega
        · clear hx hl
          go_wp2
          go_ret
          exact ⟨rfl, rfl⟩
        · exact absurd hl (by omega)
def cmpL1 (x y : S58) : Int := or2 (cmpB x.f0 y.f0) (cmpB x.f1 y.f1)
set_option maxHeartbeats 8000000 in
set_option maxRecDepth 100000 in
theorem cmpFn_c (x y : S58) (w : World) : Calls Try.prog 39 #[.agg #[.string x.f0, .string x.f1], .agg #[.string y.f0, .string y.f1]] w fun e w' => e = .returned (.int .i64 (cmpL1 x y)) ∧ Below w.heap.size w w' := by
  obtain ⟨n, v⟩ := x
  obtain ⟨m, u⟩ := y
  have hu := Try.underlying58
  dsimp only
  unfold cmpL1
  dsimp only
  go_enter Try.func39, Try.ntmps39
  have hb0 := blk_new w (.cells #[.string n, .string v] 58)
  have hb1 : ((w.alloc (.cells #[.string n, .string v] 58)).alloc (.cells #[.string m, .string u] 58)).heap[w.heap.size + 1]? = some (.cells #[.string m, .string u] 58 (0, 0)) := by simpa using blk_new (w.alloc (.cells #[.string n, .string v] 58)) (.cells #[.string m, .string u] 58)
  have B0 := Aside0.mk (blk_alloc hb0 (.cells #[.string m, .string u] 58))
  have B1 := Aside0.mk hb1
  have HB := Aside0.mk (below_alloc (below_alloc (Below.refl w.heap.size w) (.cells #[.string n, .string v] 58)) (.cells #[.string m, .string u] 58))
  clear hb0 hb1
  go_wp2
  generalize (w.alloc (.cells #[.string n, .string v] 58)).alloc (.cells #[.string m, .string u] 58) = W at B0 B1 HB ⊢
  replace HB := Aside0.mk (below_drew1 HB.out)
  replace B0 : Aside0 (W.drew.heap[w.heap.size]? = some (.cells #[.string n, .string v] 58 (0, 0))) := ⟨B0.out⟩
  replace B1 : Aside0 (W.drew.heap[w.heap.size + 1]? = some (.cells #[.string m, .string u] 58 (0, 0))) := ⟨B1.out⟩
  have HN := Aside0.mk (strCmp_c n m)
  have HV := Aside0.mk (strCmp_c v u)
  go_region_held3 (fun X => X.cell? ⟨w.heap.size, 0, none⟩ = some (.string n) ∧ X.cell? ⟨w.heap.size, 1, none⟩ = some (.string v) ∧ X.cell? ⟨w.heap.size + 1, 0, none⟩ = some (.string m) ∧ X.cell? ⟨w.heap.size + 1, 1, none⟩ = some (.string u)) (first | exact ⟨(blk_cell B0.out 0).trans rfl, (blk_cell B0.out 1).trans rfl, (blk_cell B1.out 0).trans rfl, (blk_cell B1.out 1).trans rfl⟩ | exact ⟨(blk_cell (blk_alloc B0.out _) 0).trans rfl, (blk_cell (blk_alloc B0.out _) 1).trans rfl, (blk_cell (blk_alloc B1.out _) 0).trans rfl, (blk_cell (blk_alloc B1.out _) 1).trans rfl⟩) (first | (go_at_call 41; (with_reducible refine (HN.out _).mono ?_); rintro e w1 ⟨rfl, rfl⟩) | (go_at_call 41; (with_reducible refine (HV.out _).mono ?_); rintro e w1 ⟨rfl, rfl⟩) | (go_at_call 40; (refine (or2_c (cmpB n m) (cmpB v u) W.drew.heap.size 2 _ ((blk_cell (blk_new _ _) 0).trans rfl) ((blk_cell (blk_new _ _) 1).trans rfl) (Nat.le_refl _)).mono ?_); rintro e w1 ⟨rfl, rfl⟩))
  all_goals go_wp2
  all_goals go_ret
  all_goals exact ⟨rfl, below_alloc HB.out _⟩
theorem rdL_nat (l : List S58) (i : Nat) (h : i < l.length) : rd_T58 l (i : Int) = l[i] := by unfold rd_T58; simp [List.getD, h]
def compR : List S58 → List S58 → Int
  | [], [] => 0
  | [], _ :: _ => -1
  | _ :: _, [] => 1
  | x :: a, y :: b => if cmpL1 x y = 0 then compR a b else cmpL1 x y
def labels_Compare.f (a b : List S58) : Option Int := some (compR a b)
set_option maxHeartbeats 8000000 in
set_option maxRecDepth 100000 in
theorem compareFunc_c (A0 : Option Addr) (c0 : Nat) (l0 : List S58) (A1 : Option Addr) (c1 : Nat) (l1 : List S58) (w : World) (hr0 : Kd.C k58 w A0 l0.length l0) (hc0 : l0.length ≤ c0) (hr1 : Kd.C k58 w A1 l1.length l1) (hc1 : l1.length ≤ c1) :
    Calls Try.prog 38 #[.slice A0 l0.length c0, .slice A1 l1.length c1, .func (.func 39) #[] #[]] w fun e w' => e = .returned (.int .i64 (compR l0 l1)) ∧ Below w.heap.size w w' := by
  have hm0 : l0.length ≤ 9223372036854775807 := hr0.2.1
  have hm1 : l1.length ≤ 9223372036854775807 := hr1.2.1
  have HR := Aside0.mk hr0
  have HS := Aside0.mk hr1
  have hu := Try.underlying58
  clear hr0 hr1
  go_enter Try.func38, Try.ntmps38
  go_wp2
  go_loopg [13, 7, 10] l0.length (fun gg v13 _ _ wr => ∃ (i : Nat), i + gg = l0.length ∧ i ≤ l1.length ∧ v13 = .int .i64 i ∧ Aside0 (Below w.heap.size w wr) ∧ Aside0 (compR (l0.drop i) (l1.drop i) = compR l0 l1))
  case atStart => exact ⟨0, by omega, Nat.zero_le _, rfl, ⟨Below.refl _ _⟩, ⟨rfl⟩⟩
  case round =>
    obtain ⟨i, hi, hi1, rfl, HB, HC⟩ := hrel
    cases gk with
    | zero =>
      have hc := HC.out
      rw [List.drop_of_length_le (show l0.length ≤ i by omega)] at hc
      have d0 : decide ((i : Int) < (l0.length : Int)) = false := decide_eq_false (by omega)
      have d0n : decide (i < l0.length) = false := decide_eq_false (by omega)
      by_cases hl : l0.length < l1.length
      · have d1 : decide ((l0.length : Int) < (l1.length : Int)) = true := decide_eq_true (by omega)
        have d1n : decide (l0.length < l1.length) = true := decide_eq_true hl
        rw [List.drop_eq_getElem_cons (show i < l1.length by omega)] at hc
        have hc' : (-1 : Int) = compR l0 l1 := hc
        replace HC := Aside0.mk hc'
        clear hc'
        clear hc hi hi1
        go_wp2
        go_ret
        exact ⟨by rw [← HC.out]; rfl, HB.out⟩
      · have d1 : decide ((l0.length : Int) < (l1.length : Int)) = false := decide_eq_false (by omega)
        have d1n : decide (l0.length < l1.length) = false := decide_eq_false hl
        rw [List.drop_of_length_le (show l1.length ≤ i by omega)] at hc
        have HC := Aside0.mk hc
        clear hc hi hi1
        go_wp2
        go_ret
        exact ⟨by rw [← HC.out]; rfl, HB.out⟩
    | succ g1 =>
      have hlt : i < l0.length := by omega
      have hc := HC.out
      rw [List.drop_eq_getElem_cons hlt] at hc
      obtain ⟨ad, e1, hx0, hx1⟩ := at_T58 HR.out (i : Int) (by omega) (by omega)
      cases e1
      replace hx0 := (HB.out.cell (World.block_lt_of_cell? w _ hx0)).trans hx0
      replace hx1 := (HB.out.cell (World.block_lt_of_cell? w _ hx1)).trans hx1
      rw [rdL_nat l0 i hlt, Int.toNat_natCast] at hx0 hx1
      have d0 : decide ((i : Int) < (l0.length : Int)) = true := decide_eq_true (by omega)
      have d0n : decide (i < l0.length) = true := decide_eq_true hlt
      have p0 : (0 ≤ (i : Int)) = True := eq_true (by omega)
      by_cases hl1 : i < l1.length
      · obtain ⟨bd, e2, hy0, hy1⟩ := at_T58 HS.out (i : Int) (by omega) (by omega)
        cases e2
        replace hy0 := (HB.out.cell (World.block_lt_of_cell? w _ hy0)).trans hy0
        replace hy1 := (HB.out.cell (World.block_lt_of_cell? w _ hy1)).trans hy1
        rw [rdL_nat l1 i hl1, Int.toNat_natCast] at hy0 hy1
        rw [List.drop_eq_getElem_cons hl1] at hc
        have d1 : decide ((l1.length : Int) ≤ (i : Int)) = false := decide_eq_false (by omega)
        have d1n : decide (l1.length ≤ i) = false := decide_eq_false (by omega)
        have hcell := cmpFn_c l0[i] l1[i]
        simp only [compR] at hc
        generalize l0[i] = x at *
        generalize l1[i] = y at *
        have HF := Aside0.mk hcell
        clear hcell HC
        have hbx := HB.out
        have lx0 := World.block_lt_of_cell? _ _ hx0
        have ly0 := World.block_lt_of_cell? _ _ hy0
        by_cases hz : cmpL1 x y = 0
        · rw [if_pos hz] at hc
          rw [hz] at HF
          have HC := Aside0.mk hc
          clear hc hz hbx
          go_wp2_with (go_at_call 39; (with_reducible refine (HF.out _).mono ?_); rintro e w1 ⟨rfl, hb⟩; have HB1 := Aside0.mk (below_then (below_alloc (below_alloc HB.out (.cells #[.string x.f0, .string x.f1] 58)) (.cells #[.string y.f0, .string y.f1] 58)) (by have := HB.out.size; simp; omega) hb); clear hb)
          go_roundg g1
          case measure => omega
          case rel => exact ⟨i + 1, by omega, by omega, by go_num, HB1, HC⟩
        · rw [if_neg hz] at hc
          have dz : (cmpL1 x y != 0) = true := bne_iff_ne.2 hz
          have HC := Aside0.mk hc
          clear hc hz hbx
          go_wp2_with (go_at_call 39; (with_reducible refine (HF.out _).mono ?_); rintro e w1 ⟨rfl, hb⟩; have HB1 := Aside0.mk (below_then (below_alloc (below_alloc HB.out (.cells #[.string x.f0, .string x.f1] 58)) (.cells #[.string y.f0, .string y.f1] 58)) (by have := HB.out.size; simp; omega) hb); clear hb)
          go_ret
          exact ⟨by rw [← HC.out]; rfl, HB1.out⟩
      · have d1 : decide ((l1.length : Int) ≤ (i : Int)) = true := decide_eq_true (by omega)
        have d1n : decide (l1.length ≤ i) = true := decide_eq_true (by omega)
        rw [List.drop_of_length_le (show l1.length ≤ i by omega)] at hc
        have HC1 := Aside0.mk hc
        clear hc hl1 HC
        have HB1 := Aside0.mk (below_alloc HB.out (.cells #[.string (l0[i]).f0, .string (l0[i]).f1] 58))
        go_wp2
        go_ret
        exact ⟨by rw [← HC1.out]; rfl, HB1.out⟩
set_option maxHeartbeats 4000000 in
set_option maxRecDepth 100000 in
theorem labels_Compare.calls (A0 : Option Addr) (c0 : Nat) (l0 : List S58) (A1 : Option Addr) (c1 : Nat) (l1 : List S58) (r : Int) (w : World) (hr0 : Kd.C k58 w A0 l0.length l0) (hc0 : l0.length ≤ c0) (hr1 : Kd.C k58 w A1 l1.length l1) (hc1 : l1.length ≤ c1) (h : labels_Compare.f l0 l1 = some r) :
    Calls Try.prog 24 #[.slice A0 l0.length c0, .slice A1 l1.length c1] w fun e w' => e = .returned (.int .i64 r) ∧ Below w.heap.size w w' := by
  injection h with h
  subst h
  have HF := Aside0.mk (compareFunc_c A0 c0 l0 A1 c1 l1 w hr0 hc0 hr1 hc1)
  clear hr0 hr1
  go_enter Try.func24, Try.ntmps24
  go_wp2_with (go_at_call 38; (with_reducible refine HF.out.mono ?_); rintro e w1 ⟨rfl, hb⟩; have HB := Aside0.mk hb; clear hb)
  go_ret
  exact ⟨rfl, HB.out⟩
end Go.Proofs.Ytbfiacnmielajaa.P
namespace Go.Proofs.Ytbfiacnmielajaa.P
open Go.RowKit Go.Proofs.YtbfiacnmielajaaW.PrintWords Go.Proofs.YtbfiacnmielajaaW.PrintLast Go.Proofs.YtbfiacnmielajaaW.PrintMore
set_option linter.unusedVariables false
set_option linter.unusedSimpArgs false
def lc : List S58 := [⟨⟨#[106, 111, 98]⟩, ⟨#[97, 112, 105]⟩⟩, ⟨⟨#[122, 111, 110, 101]⟩, ⟨#[97, 34, 98]⟩⟩]
def tc : ByteArray := ⟨#[123, 106, 111, 98, 61, 34, 97, 112, 105, 34, 44, 122, 111, 110, 101, 61, 34, 97, 92, 34, 98, 34, 125]⟩
def sc : ByteArray := ⟨#[123, 122, 111, 110, 101, 42, 61, 34, 98, 34, 44, 106, 111, 98, 33, 61, 34, 120, 34, 125]⟩
def mc : List S42 := [⟨3, ⟨#[122, 111, 110, 101]⟩, ⟨#[98]⟩⟩, ⟨1, ⟨#[106, 111, 98]⟩, ⟨#[120]⟩⟩]
theorem tc_eq : labels_Text.f 50 lc = some (tc, 0) := by kernel_rfl
theorem pc_eq : labels_Parse.f 50 tc = some (lc, 0) := by kernel_rfl
theorem mc_eq : labels_ParseMatchers.f sc = some (mc, 0) := by kernel_rfl
theorem bc_eq : labels_Parse.f 50 ⟨#[123, 98, 61, 34, 34, 44, 97, 61, 34, 34, 125]⟩ = some ([], 10) := by kernel_rfl
theorem gc_eq : labels_Get.f 50 lc ⟨#[106, 111, 98]⟩ = some (⟨#[97, 112, 105]⟩, true) := by kernel_rfl
theorem hc_eq : labels_Match.f lc mc = some true := by kernel_rfl
theorem cc_eq : labels_Compare.f lc [⟨⟨#[106, 111, 98]⟩, ⟨#[97, 112, 105]⟩⟩] = some 1 := by kernel_rfl
theorem kc_eq : labels_Check.f 50 [⟨⟨#[]⟩, ⟨#[]⟩⟩] = some 10 := by kernel_rfl
theorem C_head {W : World} {a : Addr} {n : Nat} {x : S58} {l : List S58} (h : Kd.C k58 W (some a) n (x :: l)) : Kd.C k58 W (some a) 1 [x] := by
  obtain ⟨h1, h2, h3⟩ := h
  obtain ⟨b, e, hb⟩ := h3 (by rw [← h1]; simp)
  cases e
  refine ⟨rfl, by decide, fun _ => ⟨a, rfl, fun j p hj => hb j p ?_⟩⟩
  cases j with
  | zero => exact hj
  | succ j => simp at hj
theorem C_fresh {W : World} {b : Nat} {x : S58} {t : TypeId} (h : W.heap[b]? = some (.cells #[.string x.f0, .string x.f1] t (0, 0))) : Kd.C k58 W (some ⟨b, 0, none⟩) 1 [x] := by
  refine ⟨rfl, by decide, fun _ => ⟨_, rfl, fun j p hj => ?_⟩⟩
  cases j with
  | succ j => simp at hj
  | zero =>
    obtain rfl : x = p := by simpa using hj
    refine ⟨[.string x.f0, .string x.f1], rfl, k58_mk W x, fun i u hu => ?_⟩
    match i, hu with
    | 0, hu => exact (blk_cell h 0).trans hu
    | 1, hu => exact (blk_cell h 1).trans hu
    | i + 2, hu => simp at hu
theorem cells4 {W : World} {a1 a3 : Addr} {n m : Nat} (h : Kd.C k58 W (some a1) n lc) (k : Kd.C k58 W (some a3) m lc) : W.cell? ⟨a1.block, a1.off + 2, none⟩ = some (.string (⟨#[122, 111, 110, 101]⟩ : ByteArray)) ∧ W.cell? ⟨a1.block, a1.off + 2 + 1, none⟩ = some (.string (⟨#[97, 34, 98]⟩ : ByteArray)) ∧ W.cell? ⟨a3.block, a3.off + 2, none⟩ = some (.string (⟨#[122, 111, 110, 101]⟩ : ByteArray)) ∧ W.cell? ⟨a3.block, a3.off + 2 + 1, none⟩ = some (.string (⟨#[97, 34, 98]⟩ : ByteArray)) := by
  have hn : n = 2 := h.1.symm.trans rfl
  have hm : m = 2 := k.1.symm.trans rfl
  obtain ⟨b1, e1, hx0, hx1⟩ := at_T58 h 1 (by decide) (by omega)
  obtain ⟨b3, e3, hy0, hy1⟩ := at_T58 k 1 (by decide) (by omega)
  cases e1
  cases e3
  exact ⟨hx0, hx1, hy0, hy1⟩
theorem mc_eq2 : labels_ParseMatchers.f ⟨#[123, 122, 111, 110, 101, 42, 61, 34, 98, 34, 44, 106, 111, 98, 33, 61, 34, 120, 34, 125]⟩ = some (mc, 0) := mc_eq
set_option maxHeartbeats 16000000 in
set_option maxRecDepth 100000 in
theorem awake_c (w : World) : Calls Try.prog 11 #[] w fun e w' => e = .returned (.bool true) ∧ Below w.heap.size w w' := by
  have huL := Try.underlying58
  have htc : (⟨#[123, 106, 111, 98, 61, 34, 97, 112, 105, 34, 44, 122, 111, 110, 101, 61, 34, 97, 92, 34, 98, 34, 125]⟩ : ByteArray) = tc := rfl
  go_enter Try.func11, Try.ntmps11
  go_wp2_with (first | ((with_reducible refine gate_dst (N := 14) rfl ?_); refine Kd.R_lit k58 _ 58 ?hg (N := 14) ?hd (xs := lc) (inner := [.string (⟨#[106, 111, 98]⟩ : ByteArray), .string (⟨#[97, 112, 105]⟩ : ByteArray), .string (⟨#[122, 111, 110, 101]⟩ : ByteArray), .string (⟨#[97, 34, 98]⟩ : ByteArray)]) (ok := fun _ => True) (okp := fun _ => True) ?hr ?hp (fun _ hk => hk) trivial (Below.refl _ _) (Nat.le_refl _) (by simp [lc]) ?_; (case hd => rfl); (case hg => rfl); (case hr => first | (go_simp; done) | (go_simp; rfl)); (case hp => exact (Reps.c2 (show Kd.M k58 _ _ _ (⟨(⟨#[106, 111, 98]⟩ : ByteArray), (⟨#[97, 112, 105]⟩ : ByteArray)⟩ : S58) [.string (⟨#[106, 111, 98]⟩ : ByteArray), .string (⟨#[97, 112, 105]⟩ : ByteArray)] from (k58_mkM _ _ _ _)) (Reps.c2 (show Kd.M k58 _ _ _ (⟨(⟨#[122, 111, 110, 101]⟩ : ByteArray), (⟨#[97, 34, 98]⟩ : ByteArray)⟩ : S58) [.string (⟨#[122, 111, 110, 101]⟩ : ByteArray), .string (⟨#[97, 34, 98]⟩ : ByteArray)] from (k58_mkM _ _ _ _)) (Reps.none _ _)))); intro v102 w1 ho hb hg_ hnew_; clear hg_ hnew_; have HO := Aside0.mk ho; have HB := Aside0.mk hb; clear hb ho; obtain ⟨A1, c1, rfl⟩ := Kd.R_slice HO.out) | (go_at_call 13; ((with_reducible refine (labels_Text.calls 50 A1 c1 lc tc 0 _ (Kd.R_reads' HO.out).2.2 (Kd.R_reads' HO.out).2.1 tc_eq).mono ?_); rintro e w2 ⟨rfl, hb⟩; replace HO := Aside0.mk (Kd.R_below HO.out hb); replace HB := Aside0.mk (below_then HB.out HB.out.size hb); clear hb)) | (go_at_call 15; ((with_reducible refine (labels_Parse.calls 50 tc lc 0 _ pc_eq).mono ?_); rintro e w3 ⟨v3, rfl, hp, hb⟩; have hsz := HB.out.size; replace HO := Aside0.mk (Kd.R_below HO.out hb); replace HB := Aside0.mk (below_then HB.out HB.out.size hb); have HP := Aside0.mk (Kd.R_lower hp hsz); clear hp hb hsz; obtain ⟨A3, c3, rfl⟩ := Kd.R_slice HP.out)) | (go_at_call 18; ((with_reducible refine (labels_ParseMatchers.calls _ mc 0 _ mc_eq2).mono ?_); rintro e w5 ⟨v5, rfl, hm, hb⟩; have hsz := HB.out.size; replace HO := Aside0.mk (Kd.R_below HO.out hb); replace HP := Aside0.mk (Kd.R_below HP.out hb); replace HB := Aside0.mk (below_then HB.out HB.out.size hb); have HM := Aside0.mk (Kd.R_lower hm hsz); clear hm hb hsz; obtain ⟨A5, c5, rfl⟩ := Kd.R_slice HM.out)) | (go_at_call 15; ((with_reducible refine (labels_Parse.calls 50 _ [] 10 _ bc_eq).mono ?_); rintro e w4 ⟨v4, rfl, hp, hb⟩; replace HO := Aside0.mk (Kd.R_below HO.out hb); replace HP := Aside0.mk (Kd.R_below HP.out hb); replace HM := Aside0.mk (Kd.R_below HM.out hb); replace HB := Aside0.mk (below_then HB.out HB.out.size hb); clear hp hb)) | (go_at_call 20; ((with_reducible refine (labels_Get.calls 50 A1 c1 lc _ _ true _ (Kd.R_reads' HO.out).2.2 (Kd.R_reads' HO.out).2.1 gc_eq).mono ?_); rintro e w6 ⟨rfl, hb⟩; replace HO := Aside0.mk (Kd.R_below HO.out hb); replace HP := Aside0.mk (Kd.R_below HP.out hb); replace HM := Aside0.mk (Kd.R_below HM.out hb); replace HB := Aside0.mk (below_then HB.out HB.out.size hb); clear hb)))
  have hc1 : 2 ≤ c1 := (Kd.R_reads' HO.out).2.1
  obtain ⟨a1, e1, hx0, hx1⟩ := at_T58 (Kd.R_reads' HO.out).2.2 1 (by decide) (by decide)
  obtain ⟨a3, e3, hy0, hy1⟩ := at_T58 (Kd.R_reads' HP.out).2.2 1 (by decide) (by decide)
  subst e1
  subst e3
  have HX := Aside0.mk (And.intro hx0 hx1)
  clear hx0 hx1 hy0 hy1
  have hc1i : (1 : Int) ≤ (c1 : Int) := by omega
  have hc1d : decide ((1 : Int) ≤ (c1 : Int)) = true := decide_eq_true hc1i
  rw [show lc.length = 2 from rfl]
  replace HO := Aside0.mk (Kd.R_drew HO.out)
  replace HP := Aside0.mk (Kd.R_drew HP.out)
  replace HM := Aside0.mk (Kd.R_drew HM.out)
  replace HB := Aside0.mk (below_drew1 HB.out)
  go_region_held3 (fun W => W.cell? ⟨a1.block, a1.off + 2, none⟩ = some (.string (⟨#[122, 111, 110, 101]⟩ : ByteArray)) ∧ W.cell? ⟨a1.block, a1.off + 2 + 1, none⟩ = some (.string (⟨#[97, 34, 98]⟩ : ByteArray)) ∧ W.cell? ⟨a3.block, a3.off + 2, none⟩ = some (.string (⟨#[122, 111, 110, 101]⟩ : ByteArray)) ∧ W.cell? ⟨a3.block, a3.off + 2 + 1, none⟩ = some (.string (⟨#[97, 34, 98]⟩ : ByteArray))) (first | exact cells4 (Kd.R_reads' HO.out).2.2 (Kd.R_reads' HP.out).2.2 | exact cells4 (Kd.R_reads' (Kd.R_alloc HO.out _)).2.2 (Kd.R_reads' (Kd.R_alloc HP.out _)).2.2) (first | (go_at_call 22; ((refine (labels_Match.calls (some a1) c1 lc A5 c5 mc true _ (Kd.R_reads' HO.out).2.2 (Kd.R_reads' HO.out).2.1 (Kd.R_reads' HM.out).2.2 (Kd.R_reads' HM.out).2.1 hc_eq).mono ?_); rintro e w6 ⟨rfl, hb⟩; replace HO := Aside0.mk (Kd.R_below HO.out hb); replace HP := Aside0.mk (Kd.R_below HP.out hb); replace HM := Aside0.mk (Kd.R_below HM.out hb); replace HB := Aside0.mk (below_then HB.out HB.out.size hb); clear hb)) | (go_at_call 24; ((refine (labels_Compare.calls (some a1) c1 lc (some a1) c1 [⟨(⟨#[106, 111, 98]⟩ : ByteArray), (⟨#[97, 112, 105]⟩ : ByteArray)⟩] 1 _ (Kd.R_reads' HO.out).2.2 (Kd.R_reads' HO.out).2.1 (C_head (Kd.R_reads' HO.out).2.2) (by simp; omega) cc_eq).mono ?_); rintro e w7 ⟨rfl, hb⟩; replace HO := Aside0.mk (Kd.R_below HO.out hb); replace HP := Aside0.mk (Kd.R_below HP.out hb); replace HM := Aside0.mk (Kd.R_below HM.out hb); replace HB := Aside0.mk (below_then HB.out HB.out.size hb); clear hb)) | (go_at_call 14; ((refine (labels_Check.calls 50 _ 1 [⟨⟨#[]⟩, ⟨#[]⟩⟩] 10 _ (C_fresh (blk_new _ _)) (by simp) kc_eq).mono ?_); rintro e w8 ⟨rfl, hb⟩; replace HO := Aside0.mk (Kd.R_below (Kd.R_alloc HO.out _) hb); replace HP := Aside0.mk (Kd.R_below (Kd.R_alloc HP.out _) hb); replace HB := Aside0.mk (below_then (below_alloc HB.out _) (below_alloc HB.out _).size hb); clear hb)))
  all_goals go_wp2
  all_goals go_ret
  all_goals exact ⟨rfl, HB.out⟩
def tidepolelaw30_awake.f : Option Bool := some true
theorem tidepolelaw30_awake.calls (r : Bool) (w : World) (h : tidepolelaw30_awake.f = some r) : Calls Try.prog 11 #[] w fun e w' => e = .returned (.bool r) ∧ Below w.heap.size w w' := by
  injection h with h
  subst h
  exact awake_c w
end Go.Proofs.Ytbfiacnmielajaa.P
namespace Go.Proofs.Ytbfiacnmielajaa.P
open Go.RowKit Go.Proofs.YtbfiacnmielajaaW.PrintWords Go.Proofs.YtbfiacnmielajaaW.PrintLast Go.Proofs.YtbfiacnmielajaaW.PrintMore
attribute [local go_sem] max2_int min2_int max_two min_two max_three min_three max_four min_four
set_option linter.unusedVariables false
set_option linter.unusedSimpArgs false
theorem eqA59 (d : Nat) (w : World) (x0 y0 : Int) (x1 y1 : ByteArray) (x2 y2 : ByteArray) :
  (Op.equalIn (d + 2) 59 (.agg #[.int .i64 x0, .string x1, .string x2]) (.agg #[.int .i64 y0, .string y1, .string y2])).run Try.prog w = .ok (x0 == y0 && (x1.toList == y1.toList && (x2.toList == y2.toList))) w := by
 refine eqA_of Try.underlying59 (by kernel_rfl) ?_
 refine eqf_cons (by rfl) (by go_simp; rfl) (by go_simp; rfl) (by go_simp) ?_
 refine eqf_cons (by rfl) (by go_simp; rfl) (by go_simp; rfl) (by go_simp) ?_
 exact eqf_last (by rfl) (by go_simp; rfl) (by go_simp; rfl) (by go_simp)
end Go.Proofs.Ytbfiacnmielajaa.P
namespace Go.Proofs.Ytbfiacnmielajaa.P
open Go.RowKit Go.Proofs.YtbfiacnmielajaaW.PrintWords Go.Proofs.YtbfiacnmielajaaW.PrintLast Go.Proofs.YtbfiacnmielajaaW.PrintMore
attribute [local go_sem] max2_int min2_int max_two min_two max_three min_three max_four min_four
set_option linter.unusedVariables false
set_option linter.unusedSimpArgs false
attribute [local go_sem high] leq_str gtr_str
attribute [local go_sem high] eqA59
def tidepolelaw30_ref.l0 : Nat → List (S59) → List (S58) → Int → Int → Option ((List (S59)))
 | 0, _, _, _, _ => none
 | k + 1, x3, x6, x7, x8 => if x8 < x7 then (if 0 ≤ x8 then (if x8 < (x6.length : Int) then (if x3.length < 3518437208883 then (tidepolelaw30_ref.l0 k (x3 ++ [(⟨0, (rd_T58 x6 x8).f0, (rd_T58 x6 x8).f1⟩ : S59)]) x6 x7 (wrap64 (x8 + 1))) else (none)) else (none)) else (none)) else (some x3)
def tidepolelaw30_ref.f (k : Nat) (l0 : List (S58)) : Option ((List (S59))) := tidepolelaw30_ref.l0 k ([] : List (S59)) l0 (l0.length : Int) 0
set_option maxHeartbeats 8000000 in
set_option maxRecDepth 100000 in
theorem tidepolelaw30_ref.calls (k : Nat) (A0 : Option Addr) (c0 : Nat) (l0 : List (S58)) (r : List (S59)) (w : World) (hr0 : Kd.C k58 w A0 l0.length l0) (hc0 : l0.length ≤ c0) (h : tidepolelaw30_ref.f k l0 = some r) :
  Calls Try.prog 9 #[.slice A0 l0.length c0] w fun e w' => ∃ v0_ : Value, e = .returned (v0_) ∧ Kd.R k59 59 w' w.heap.size (fun _ => True) v0_ r ∧ Below w.heap.size w w' := by
 have hu58 := Try.underlying58
 have hu59 := Try.underlying59
 have HR0 := Aside0.mk hr0
 have HC0 := Aside0.mk hc0
 clear hr0 hc0
 have HB := Aside0.mk (Below.refl w.heap.size w)
 have H : (tidepolelaw30_ref.l0 k ([] : List (S59)) l0 (l0.length : Int) 0) = some r := h
 clear h
 have H' := Aside0.mk H
 clear H
 go_enter Try.func9, Try.ntmps9
 go_wp2
 go_loopg [3, 8] k (fun kq v3 v8 w' => ∃ (x3_1 : List (S59)) (x8_1 : Int), v8 = .int .i64 x8_1 ∧ Aside0 (tidepolelaw30_ref.l0 kq x3_1 l0 (l0.length : Int) x8_1 = some r) ∧ Aside0 (kq ≤ k) ∧ Aside0 (Kd.R k59 59 w' w.heap.size (fun _ => True) v3 x3_1) ∧ Aside0 (Below w.heap.size w w'))
 case atStart => exact ⟨(([] : List (S59))), (0), (by first | rfl | (simp; done) | (simp [*]; done)), H', ⟨Nat.le_refl _⟩, ⟨by first | exact Kd.R_nil _ _ _ _ _ | exact Kd.N_nil _ _ _ _ _ | exact Kd.V_nil _ _ _ _ _ | exact Kd.Q_nil _ _ _ _ _ | exact Kd.S_nil _ _ _ _ _⟩, ⟨by repeat (first | (with_reducible first | exact HB.out | apply below_alloc | apply pw_below_drewN | apply below_drew1) | exact HB.out)⟩⟩
 case round =>
  clear H'
  obtain ⟨x3_1, x8_1, rfl, HA, HK1, HO_3, HB⟩ := hrel
  cases gk with
  | zero => exact absurd HA.out (by simp [tidepolelaw30_ref.l0])
  | succ k1 =>
   have H := HA.out
   clear HA
   simp only [tidepolelaw30_ref.l0] at H
   by_cases c2 : x8_1 < (l0.length : Int)
   ·rw [if_pos c2] at H
    have c2b0 : decide (x8_1 < (l0.length : Int)) = true := decide_eq_true c2
    clear c2
    by_cases c3 : 0 ≤ x8_1
    ·rw [if_pos c3] at H
     have c3b0 : decide (0 ≤ x8_1) = true := decide_eq_true c3
     clear c3
     by_cases c4 : x8_1 < (l0.length : Int)
     ·rw [if_pos c4] at H
      have c4b0 : decide (x8_1 < (l0.length : Int)) = true := decide_eq_true c4
      clear c4
      by_cases c5 : x3_1.length < 3518437208883
      ·rw [if_pos c5] at H
       have LMc5 := Aside0.mk c5
       clear c5
       obtain ⟨y103, hy103⟩ : ∃ y_ : List (S59), y_ = (x3_1 ++ [(⟨0, (rd_T58 l0 x8_1).f0, (rd_T58 l0 x8_1).f1⟩ : S59)]) := ⟨_, rfl⟩
       replace H : (tidepolelaw30_ref.l0 k1 y103 l0 (l0.length : Int) (wrap64 (x8_1 + 1))) = some r := by first | (rw [hy103]; with_reducible exact H) | (have H2_ := (Option.bind_some _ _).symm.trans H; rw [hy103]; with_reducible exact H2_) | (have H2_ := (Option.bind_some _ _).symm.trans H; with_reducible exact H2_) | with_reducible exact H | (rw [hy103]; exact H) | exact H
       have Ny103 := Aside0.mk hy103
       clear hy103
       have H' := Aside0.mk H
       clear H
       have p101 : 0 ≤ (x8_1 : Int) := of_decide_eq_true (by first | (with_reducible assumption) | assumption)
       have q101 : x8_1 < (l0.length : Int) := of_decide_eq_true (by first | (with_reducible assumption) | assumption)
       obtain ⟨ad101, e101, hx101_0, hx101_1⟩ := at_T58 HR0.out x8_1 p101 q101
       cases e101
       replace hx101_0 := (HB.out.cell (World.block_lt_of_cell? w _ hx101_0)).trans hx101_0
       replace hx101_1 := (HB.out.cell (World.block_lt_of_cell? w _ hx101_1)).trans hx101_1
       replace p101 := eq_true p101
       replace q101 := eq_true q101
       go_wp2_with (first | ((with_reducible refine gate_dst (N := 5) rfl ?_); refine box_event ?hg (N := 5) ?hd (cs := #[.string (⟨#[]⟩ : ByteArray), .string (⟨#[]⟩ : ByteArray)]) (t := 58) ?hr ?_; (case hd => rfl); (case hg => rfl); (case hr => first | (go_simp; done) | (go_simp; rfl)); intro gb102 hg w6 hbox hb; have n0_ := Aside0.mk (Kd.R_below (by (with_reducible repeat (first | apply Kd.R_alloc | apply Kd.R_drewN | apply Kd.R_drew)); exact HO_3.out) hb); have n1_ := Aside0.mk (below_step (by repeat (first | (with_reducible first | exact HB.out | apply below_alloc | apply pw_below_drewN | apply below_drew1) | exact HB.out)) hb); have n2_ := Aside0.mk (hbox); have n3_ := Aside0.mk ((by rw [hg]; exact (below_size (by repeat (first | (with_reducible first | exact HB.out | apply below_alloc | apply pw_below_drewN | apply below_drew1) | exact HB.out))) : w.heap.size ≤ gb102)); have n4_ := Aside0.mk ((by rw [hg]; exact (below_size (by repeat (first | (with_reducible first | exact HB.out | apply below_alloc | apply pw_below_drewN | apply below_drew1) | exact HB.out))) : w.heap.size ≤ gb102)); clear HO_3; clear HB; have HO_3 := n0_; have HB := n1_; have BK102 := n2_; have GW102 := n3_; have GE102 := n4_; clear n0_ n1_ n2_ n3_ n4_; clear hb hbox hg; have hcz7_0 : w6.cell? ⟨gb102, 0, none⟩ = some (.string (⟨#[]⟩ : ByteArray)) := (blk_cell BK102.out 0).trans rfl; have hcz7_1 : w6.cell? ⟨gb102, 1, none⟩ = some (.string (⟨#[]⟩ : ByteArray)) := (blk_cell BK102.out 1).trans rfl; have hfz7_0 := blk_frozen BK102.out 0; have hfz7_1 := blk_frozen BK102.out 1) | ((with_reducible refine gate_builtin (b := .append) (xs := #[.tmp 12, .tmp 18]) rfl ?_); at_builtin; refine Kd.R_append k59 (w0 := w) w.heap.size rfl (.tmp 12) (.tmp 18) 23 59 (.agg #[(.int .i64 0), (.string ⟨#[]⟩), (.string ⟨#[]⟩)]) 40 rfl Try.underlying23 info59 rfl (by decide) (by omega) u3 x3_1 (⟨0, (rd_T58 l0 x8_1).f0, (rd_T58 l0 x8_1).f1⟩ : S59) [.int .i64 0, .string ((rd_T58 l0 x8_1).f0), .string ((rd_T58 l0 x8_1).f1)] (fun _ => True) (fun _ => False) rfl (by first | (go_simp; done) | (go_simp; rfl)) ?aP (fun _ hk => hk.elim) ?aF ?aO ?aB ?aS ?aL ?_; (case aP => exact k59_mkM _ _ _ (⟨0, (rd_T58 l0 x8_1).f0, (rd_T58 l0 x8_1).f1⟩ : S59)); (case aB => exact (by repeat (first | (with_reducible first | exact HB.out | apply below_alloc | apply pw_below_drewN | apply below_drew1 | refine below_set ?_ GE102.out) | exact HB.out))); (case aF => exact (fun _ _ => trivial)); (case aO => exact (by (with_reducible repeat (first | apply Kd.R_alloc | apply Kd.R_drewN | apply Kd.R_drew)); exact Kd.R_mono (Kd.R_far (p := ⟨gb102, 1, none⟩) (Kd.R_far (p := ⟨gb102, 0, none⟩) (Kd.R_types HO_3.out BK102.out (by decide)) (fun _ hk => hk.2) (.string ((rd_T58 l0 x8_1).f0))) (fun _ hk => hk.2) (.string ((rd_T58 l0 x8_1).f1))) (fun _ hk => trivial))); (case aS => exact (below_size (by repeat (first | (with_reducible first | exact HB.out | apply below_alloc | apply pw_below_drewN | apply below_drew1 | refine below_set ?_ GE102.out) | exact HB.out)))); (case aL => have := LMc5.out; omega); intro v104 w8 ho hb hg hat; rw [← Ny103.out] at ho; have n0_ := Aside0.mk (blk_grown (g := gb102) (o := .cells #[.string ((rd_T58 l0 x8_1).f0), .string ((rd_T58 l0 x8_1).f1)] 58 (0, 0)) (by (with_reducible repeat (first | refine blk_drewN ?_ _ | refine blk_drew ?_ | refine blk_alloc ?_ _)); refine blk_put (cs := #[.string ((rd_T58 l0 x8_1).f0), .string (⟨#[]⟩ : ByteArray)]) ?_ 1 _ rfl; (with_reducible repeat (first | refine blk_drewN ?_ _ | refine blk_drew ?_ | refine blk_alloc ?_ _)); refine blk_put (cs := #[.string (⟨#[]⟩ : ByteArray), .string (⟨#[]⟩ : ByteArray)]) ?_ 0 _ rfl; (with_reducible repeat (first | refine blk_drewN ?_ _ | refine blk_drew ?_ | refine blk_alloc ?_ _)); exact BK102.out) hg (Kd.R_ne HO_3.out BK102.out (by decide))); have n1_ := Aside0.mk (hb); have n2_ := Aside0.mk (ho); clear BK102; clear HB; clear HO_3; have BK102 := n0_; have HB := n1_; have HO105 := n2_; clear n0_ n1_ n2_; clear ho hb hg hat))
       go_roundg k1
       case measure => have := HK1.out; omega
       case rel => exact ⟨(y103), (wrap64 (x8_1 + 1)), (by first | rfl | (simp; done) | (simp [*]; done)), H', ⟨by have := HK1.out; omega⟩, ⟨by (with_reducible repeat (first | apply Kd.R_alloc | apply Kd.R_drewN | apply Kd.R_drew)); exact HO105.out⟩, ⟨by repeat (first | (with_reducible first | exact HB.out | apply below_alloc | apply pw_below_drewN | apply below_drew1 | refine below_set ?_ GE102.out) | exact HB.out)⟩⟩
      ·rw [if_neg c5] at H
       exact absurd H (by simp)
     ·rw [if_neg c4] at H
      exact absurd H (by simp)
    ·rw [if_neg c3] at H
     exact absurd H (by simp)
   ·rw [if_neg c2] at H
    have c2b0 : decide (x8_1 < (l0.length : Int)) = false := decide_eq_false c2
    clear c2
    obtain rfl := Option.some.inj H
    go_wp2
    go_ret
    exact ⟨_, by first | rfl | (simp [errW_none, errW_some] <;> rfl) | (simp [*, errW_none, errW_some] <;> rfl), by (with_reducible repeat (first | apply Kd.R_alloc | apply Kd.R_drewN | apply Kd.R_drew)); exact HO_3.out, by repeat (first | (with_reducible first | exact HB.out | apply below_alloc | apply pw_below_drewN | apply below_drew1) | exact HB.out)⟩
def tidepolelaw30_small.l0 : Nat → List (S59) → List (S59) → Int → Int → Option (Bool)
 | 0, _, _, _, _ => none
 | k + 1, x0, x5, x6, x7 => if x7 < x6 then (if 0 ≤ x7 then (if x7 < (x5.length : Int) then (if (((rd_T59 x5 x7).f1).size : Int) > 100 then (some false) else (if (((rd_T59 x5 x7).f2).size : Int) > 300 then (some false) else (tidepolelaw30_small.l0 k x0 x5 x6 (wrap64 (x7 + 1))))) else (none)) else (none)) else (some (decide ((x0.length : Int) ≤ 30)))
def tidepolelaw30_small.f (k : Nat) (l0 : List (S59)) : Option (Bool) := tidepolelaw30_small.l0 k l0 l0 (l0.length : Int) 0
set_option maxHeartbeats 8000000 in
set_option maxRecDepth 100000 in
theorem tidepolelaw30_small.calls (k : Nat) (A0 : Option Addr) (c0 : Nat) (l0 : List (S59)) (r : Bool) (w : World) (hr0 : Kd.C k59 w A0 l0.length l0) (hc0 : l0.length ≤ c0) (h : tidepolelaw30_small.f k l0 = some r) :
  Calls Try.prog 10 #[.slice A0 l0.length c0] w fun e w' => e = .returned (.bool r) ∧ Below w.heap.size w w' := by
 have hu59 := Try.underlying59
 have HR0 := Aside0.mk hr0
 have HC0 := Aside0.mk hc0
 clear hr0 hc0
 have HB := Aside0.mk (Below.refl w.heap.size w)
 have H : (tidepolelaw30_small.l0 k l0 l0 (l0.length : Int) 0) = some r := h
 clear h
 have H' := Aside0.mk H
 clear H
 go_enter Try.func10, Try.ntmps10
 go_wp2
 go_loopg [7] k (fun kq v7 w' => ∃ (x7_1 : Int), v7 = .int .i64 x7_1 ∧ Aside0 (tidepolelaw30_small.l0 kq l0 l0 (l0.length : Int) x7_1 = some r) ∧ Aside0 (kq ≤ k) ∧ Aside0 (Below w.heap.size w w'))
 case atStart => exact ⟨(0), (by first | rfl | (simp; done) | (simp [*]; done)), H', ⟨Nat.le_refl _⟩, ⟨by repeat (first | (with_reducible first | exact HB.out | apply below_alloc | apply pw_below_drewN | apply below_drew1) | exact HB.out)⟩⟩
 case round =>
  clear H'
  try clear c1
  obtain ⟨x7_1, rfl, HA, HK1, HB⟩ := hrel
  cases gk with
  | zero => exact absurd HA.out (by simp [tidepolelaw30_small.l0])
  | succ k1 =>
   have H := HA.out
   clear HA
   simp only [tidepolelaw30_small.l0] at H
   by_cases c2 : x7_1 < (l0.length : Int)
   ·rw [if_pos c2] at H
    have c2b0 : decide (x7_1 < (l0.length : Int)) = true := decide_eq_true c2
    clear c2
    by_cases c3 : 0 ≤ x7_1
    ·rw [if_pos c3] at H
     have c3b0 : decide (0 ≤ x7_1) = true := decide_eq_true c3
     clear c3
     by_cases c4 : x7_1 < (l0.length : Int)
     ·rw [if_pos c4] at H
      have c4b0 : decide (x7_1 < (l0.length : Int)) = true := decide_eq_true c4
      clear c4
      by_cases c5 : (((rd_T59 l0 x7_1).f1).size : Int) > 100
      ·rw [if_pos c5] at H
       have c5b0 : decide (100 < (((rd_T59 l0 x7_1).f1).size : Int)) = true := decide_eq_true c5
       have c5b1 : decide (100 < ((rd_T59 l0 x7_1).f1).size) = true := decide_eq_true (by omega)
       clear c5
       obtain rfl := Option.some.inj H
       have p101 : 0 ≤ (x7_1 : Int) := of_decide_eq_true (by first | (with_reducible assumption) | assumption)
       have q101 : x7_1 < (l0.length : Int) := of_decide_eq_true (by first | (with_reducible assumption) | assumption)
       obtain ⟨ad101, e101, hx101_0, hx101_1, hx101_2⟩ := at_T59 HR0.out x7_1 p101 q101
       cases e101
       replace hx101_0 := (HB.out.cell (World.block_lt_of_cell? w _ hx101_0)).trans hx101_0
       replace hx101_1 := (HB.out.cell (World.block_lt_of_cell? w _ hx101_1)).trans hx101_1
       replace hx101_2 := (HB.out.cell (World.block_lt_of_cell? w _ hx101_2)).trans hx101_2
       replace p101 := eq_true p101
       replace q101 := eq_true q101
       go_wp2_with (first | ((with_reducible refine gate_dst (N := 4) rfl ?_); (try (refine gate_guard (by rfl) ?_; dsimp only)); refine box_event ?hg (N := 4) ?hd (cs := #[.int .i64 0, .string (⟨#[]⟩ : ByteArray), .string (⟨#[]⟩ : ByteArray)]) (t := 59) ?hr ?_; (case hd => rfl); (case hg => rfl); (case hr => first | (go_simp; done) | (go_simp; rfl)); intro gb102 hg w6 hbox hb; have n0_ := Aside0.mk (below_step (by repeat (first | (with_reducible first | exact HB.out | apply below_alloc | apply pw_below_drewN | apply below_drew1) | exact HB.out)) hb); have n1_ := Aside0.mk (hbox); have n2_ := Aside0.mk ((by rw [hg]; exact (below_size (by repeat (first | (with_reducible first | exact HB.out | apply below_alloc | apply pw_below_drewN | apply below_drew1) | exact HB.out))) : w.heap.size ≤ gb102)); have n3_ := Aside0.mk ((by rw [hg]; exact (below_size (by repeat (first | (with_reducible first | exact HB.out | apply below_alloc | apply pw_below_drewN | apply below_drew1) | exact HB.out))) : w.heap.size ≤ gb102)); clear HB; have HB := n0_; have BK102 := n1_; have GW102 := n2_; have GE102 := n3_; clear n0_ n1_ n2_ n3_; clear hb hbox hg; have hcz7_0 : w6.cell? ⟨gb102, 0, none⟩ = some (.int .i64 0) := (blk_cell BK102.out 0).trans rfl; have hcz7_1 : w6.cell? ⟨gb102, 1, none⟩ = some (.string (⟨#[]⟩ : ByteArray)) := (blk_cell BK102.out 1).trans rfl; have hcz7_2 : w6.cell? ⟨gb102, 2, none⟩ = some (.string (⟨#[]⟩ : ByteArray)) := (blk_cell BK102.out 2).trans rfl; have hfz7_0 := blk_frozen BK102.out 0; have hfz7_1 := blk_frozen BK102.out 1; have hfz7_2 := blk_frozen BK102.out 2))
       go_ret
       exact ⟨by first | rfl | (simp [errW_none, errW_some] <;> rfl) | (simp [*, errW_none, errW_some] <;> rfl), by repeat (first | (with_reducible first | exact HB.out | apply below_alloc | apply pw_below_drewN | apply below_drew1 | refine below_set ?_ GE102.out) | exact HB.out)⟩
      ·rw [if_neg c5] at H
       have c5b0 : decide (100 < (((rd_T59 l0 x7_1).f1).size : Int)) = false := decide_eq_false c5
       have c5b1 : decide (100 < ((rd_T59 l0 x7_1).f1).size) = false := decide_eq_false (by omega)
       clear c5
       by_cases c8 : (((rd_T59 l0 x7_1).f2).size : Int) > 300
       ·rw [if_pos c8] at H
        have c8b0 : decide (300 < (((rd_T59 l0 x7_1).f2).size : Int)) = true := decide_eq_true c8
        have c8b1 : decide (300 < ((rd_T59 l0 x7_1).f2).size) = true := decide_eq_true (by omega)
        clear c8
        obtain rfl := Option.some.inj H
        have p101 : 0 ≤ (x7_1 : Int) := of_decide_eq_true (by first | (with_reducible assumption) | assumption)
        have q101 : x7_1 < (l0.length : Int) := of_decide_eq_true (by first | (with_reducible assumption) | assumption)
        obtain ⟨ad101, e101, hx101_0, hx101_1, hx101_2⟩ := at_T59 HR0.out x7_1 p101 q101
        cases e101
        replace hx101_0 := (HB.out.cell (World.block_lt_of_cell? w _ hx101_0)).trans hx101_0
        replace hx101_1 := (HB.out.cell (World.block_lt_of_cell? w _ hx101_1)).trans hx101_1
        replace hx101_2 := (HB.out.cell (World.block_lt_of_cell? w _ hx101_2)).trans hx101_2
        replace p101 := eq_true p101
        replace q101 := eq_true q101
        go_wp2_with (first | ((with_reducible refine gate_dst (N := 4) rfl ?_); (try (refine gate_guard (by rfl) ?_; dsimp only)); refine box_event ?hg (N := 4) ?hd (cs := #[.int .i64 0, .string (⟨#[]⟩ : ByteArray), .string (⟨#[]⟩ : ByteArray)]) (t := 59) ?hr ?_; (case hd => rfl); (case hg => rfl); (case hr => first | (go_simp; done) | (go_simp; rfl)); intro gb102 hg w9 hbox hb; have n0_ := Aside0.mk (below_step (by repeat (first | (with_reducible first | exact HB.out | apply below_alloc | apply pw_below_drewN | apply below_drew1) | exact HB.out)) hb); have n1_ := Aside0.mk (hbox); have n2_ := Aside0.mk ((by rw [hg]; exact (below_size (by repeat (first | (with_reducible first | exact HB.out | apply below_alloc | apply pw_below_drewN | apply below_drew1) | exact HB.out))) : w.heap.size ≤ gb102)); have n3_ := Aside0.mk ((by rw [hg]; exact (below_size (by repeat (first | (with_reducible first | exact HB.out | apply below_alloc | apply pw_below_drewN | apply below_drew1) | exact HB.out))) : w.heap.size ≤ gb102)); clear HB; have HB := n0_; have BK102 := n1_; have GW102 := n2_; have GE102 := n3_; clear n0_ n1_ n2_ n3_; clear hb hbox hg; have hcz10_0 : w9.cell? ⟨gb102, 0, none⟩ = some (.int .i64 0) := (blk_cell BK102.out 0).trans rfl; have hcz10_1 : w9.cell? ⟨gb102, 1, none⟩ = some (.string (⟨#[]⟩ : ByteArray)) := (blk_cell BK102.out 1).trans rfl; have hcz10_2 : w9.cell? ⟨gb102, 2, none⟩ = some (.string (⟨#[]⟩ : ByteArray)) := (blk_cell BK102.out 2).trans rfl; have hfz10_0 := blk_frozen BK102.out 0; have hfz10_1 := blk_frozen BK102.out 1; have hfz10_2 := blk_frozen BK102.out 2))
        go_ret
        exact ⟨by first | rfl | (simp [errW_none, errW_some] <;> rfl) | (simp [*, errW_none, errW_some] <;> rfl), by repeat (first | (with_reducible first | exact HB.out | apply below_alloc | apply pw_below_drewN | apply below_drew1 | refine below_set ?_ GE102.out) | exact HB.out)⟩
       ·rw [if_neg c8] at H
        have c8b0 : decide (300 < (((rd_T59 l0 x7_1).f2).size : Int)) = false := decide_eq_false c8
        have c8b1 : decide (300 < ((rd_T59 l0 x7_1).f2).size) = false := decide_eq_false (by omega)
        clear c8
        have H' := Aside0.mk H
        clear H
        have p101 : 0 ≤ (x7_1 : Int) := of_decide_eq_true (by first | (with_reducible assumption) | assumption)
        have q101 : x7_1 < (l0.length : Int) := of_decide_eq_true (by first | (with_reducible assumption) | assumption)
        obtain ⟨ad101, e101, hx101_0, hx101_1, hx101_2⟩ := at_T59 HR0.out x7_1 p101 q101
        cases e101
        replace hx101_0 := (HB.out.cell (World.block_lt_of_cell? w _ hx101_0)).trans hx101_0
        replace hx101_1 := (HB.out.cell (World.block_lt_of_cell? w _ hx101_1)).trans hx101_1
        replace hx101_2 := (HB.out.cell (World.block_lt_of_cell? w _ hx101_2)).trans hx101_2
        replace p101 := eq_true p101
        replace q101 := eq_true q101
        go_wp2_with (first | ((with_reducible refine gate_dst (N := 4) rfl ?_); (try (refine gate_guard (by rfl) ?_; dsimp only)); refine box_event ?hg (N := 4) ?hd (cs := #[.int .i64 0, .string (⟨#[]⟩ : ByteArray), .string (⟨#[]⟩ : ByteArray)]) (t := 59) ?hr ?_; (case hd => rfl); (case hg => rfl); (case hr => first | (go_simp; done) | (go_simp; rfl)); intro gb102 hg w11 hbox hb; have n0_ := Aside0.mk (below_step (by repeat (first | (with_reducible first | exact HB.out | apply below_alloc | apply pw_below_drewN | apply below_drew1) | exact HB.out)) hb); have n1_ := Aside0.mk (hbox); have n2_ := Aside0.mk ((by rw [hg]; exact (below_size (by repeat (first | (with_reducible first | exact HB.out | apply below_alloc | apply pw_below_drewN | apply below_drew1) | exact HB.out))) : w.heap.size ≤ gb102)); have n3_ := Aside0.mk ((by rw [hg]; exact (below_size (by repeat (first | (with_reducible first | exact HB.out | apply below_alloc | apply pw_below_drewN | apply below_drew1) | exact HB.out))) : w.heap.size ≤ gb102)); clear HB; have HB := n0_; have BK102 := n1_; have GW102 := n2_; have GE102 := n3_; clear n0_ n1_ n2_ n3_; clear hb hbox hg; have hcz12_0 : w11.cell? ⟨gb102, 0, none⟩ = some (.int .i64 0) := (blk_cell BK102.out 0).trans rfl; have hcz12_1 : w11.cell? ⟨gb102, 1, none⟩ = some (.string (⟨#[]⟩ : ByteArray)) := (blk_cell BK102.out 1).trans rfl; have hcz12_2 : w11.cell? ⟨gb102, 2, none⟩ = some (.string (⟨#[]⟩ : ByteArray)) := (blk_cell BK102.out 2).trans rfl; have hfz12_0 := blk_frozen BK102.out 0; have hfz12_1 := blk_frozen BK102.out 1; have hfz12_2 := blk_frozen BK102.out 2))
        go_roundg k1
        case measure => have := HK1.out; omega
        case rel => exact ⟨(wrap64 (x7_1 + 1)), (by first | rfl | (simp; done) | (simp [*]; done)), H', ⟨by have := HK1.out; omega⟩, ⟨by repeat (first | (with_reducible first | exact HB.out | apply below_alloc | apply pw_below_drewN | apply below_drew1 | refine below_set ?_ GE102.out) | exact HB.out)⟩⟩
     ·rw [if_neg c4] at H
      exact absurd H (by simp)
    ·rw [if_neg c3] at H
     exact absurd H (by simp)
   ·rw [if_neg c2] at H
    have c2b0 : decide (x7_1 < (l0.length : Int)) = false := decide_eq_false c2
    clear c2
    obtain rfl := Option.some.inj H
    go_wp2
    go_ret
    exact ⟨by first | rfl | (simp [errW_none, errW_some] <;> rfl) | (simp [*, errW_none, errW_some] <;> rfl), by repeat (first | (with_reducible first | exact HB.out | apply below_alloc | apply pw_below_drewN | apply below_drew1) | exact HB.out)⟩
def tidepolelaw30_same.l0 : Nat → List (S59) → List (S59) → Int → Int → Option (Bool)
 | 0, _, _, _, _ => none
 | k + 1, x0, x1, x12, x13 => if x13 < x12 then (if 0 ≤ x13 then (if x13 < (x0.length : Int) then (if x13 < (x1.length : Int) then (if (!(((rd_T59 x0 x13).f0) == ((rd_T59 x1 x13).f0)) || (!((((rd_T59 x0 x13).f1).toList) == (((rd_T59 x1 x13).f1).toList)) || (!((((rd_T59 x0 x13).f2).toList) == (((rd_T59 x1 x13).f2).toList))))) = true then (some false) else (tidepolelaw30_same.l0 k x0 x1 x12 (wrap64 (x13 + 1)))) else (none)) else (none)) else (none)) else (some true)
def tidepolelaw30_same.f (k : Nat) (l0 : List (S59)) (l1 : List (S59)) : Option (Bool) := if (l0.length : Int) = (l1.length : Int) then (tidepolelaw30_same.l0 k l0 l1 (l0.length : Int) 0) else (some false)
set_option maxHeartbeats 8000000 in
set_option maxRecDepth 100000 in
theorem tidepolelaw30_same.calls (k : Nat) (A0 : Option Addr) (c0 : Nat) (l0 : List (S59)) (A1 : Option Addr) (c1 : Nat) (l1 : List (S59)) (r : Bool) (w : World) (hr0 : Kd.C k59 w A0 l0.length l0) (hc0 : l0.length ≤ c0) (hr1 : Kd.C k59 w A1 l1.length l1) (hc1 : l1.length ≤ c1) (h : tidepolelaw30_same.f k l0 l1 = some r) :
  Calls Try.prog 17 #[.slice A0 l0.length c0, .slice A1 l1.length c1] w fun e w' => e = .returned (.bool r) ∧ Drawn0 w w' := by
 have hu59 := Try.underlying59
 have HR0 := Aside0.mk hr0
 have HC0 := Aside0.mk hc0
 clear hr0 hc0
 have HR1 := Aside0.mk hr1
 have HC1 := Aside0.mk hc1
 clear hr1 hc1
 have H : (if (l0.length : Int) = (l1.length : Int) then (tidepolelaw30_same.l0 k l0 l1 (l0.length : Int) 0) else (some false)) = some r := h
 clear h
 by_cases c3 : (l0.length : Int) = (l1.length : Int)
 ·rw [if_pos c3] at H
  have c3b0 : ((l0.length : Int) == (l1.length : Int)) = true := beq_iff_eq.mpr c3
  have c3b1 : ((l0.length : Int) != (l1.length : Int)) = false := bne_eq_false_iff_eq.mpr c3
  have c3b2 : (l0.length == l1.length) = true := by first | simpa using c3 | (simp at c3 ⊢; omega)
  clear c3
  have H' := Aside0.mk H
  clear H
  go_enter Try.func17, Try.ntmps17
  go_wp2
  repeat (go_quiet (fail); try go_wp2)
  go_loopg [13] k (fun kq v13 w' => ∃ (x13_1 : Int), v13 = .int .i64 x13_1 ∧ Aside0 (tidepolelaw30_same.l0 kq l0 l1 (l0.length : Int) x13_1 = some r) ∧ Aside0 (kq ≤ k) ∧ Drawn0 w w')
  case atStart => exact ⟨(0), (by first | rfl | (simp; done) | (simp [*]; done)), H', ⟨Nat.le_refl _⟩, by repeat (first | exact Drawn0.refl _ | apply Drawn0.step)⟩
  case round =>
   clear H'
   try clear c1
   try clear p2
   try clear c3
   try clear c3b0
   try clear c3b1
   try clear c3b2
   obtain ⟨x13_1, rfl, HA, HK1, ⟨m1, rfl⟩⟩ := hrel
   cases gk with
   | zero => exact absurd HA.out (by simp [tidepolelaw30_same.l0])
   | succ k1 =>
    have H := HA.out
    clear HA
    simp only [tidepolelaw30_same.l0] at H
    by_cases c4 : x13_1 < (l0.length : Int)
    ·rw [if_pos c4] at H
     have c4b0 : decide (x13_1 < (l0.length : Int)) = true := decide_eq_true c4
     clear c4
     by_cases c5 : 0 ≤ x13_1
     ·rw [if_pos c5] at H
      have c5b0 : decide (0 ≤ x13_1) = true := decide_eq_true c5
      clear c5
      by_cases c6 : x13_1 < (l0.length : Int)
      ·rw [if_pos c6] at H
       have c6b0 : decide (x13_1 < (l0.length : Int)) = true := decide_eq_true c6
       clear c6
       by_cases c7 : x13_1 < (l1.length : Int)
       ·rw [if_pos c7] at H
        have c7b0 : decide (x13_1 < (l1.length : Int)) = true := decide_eq_true c7
        clear c7
        by_cases c8 : (!(((rd_T59 l0 x13_1).f0) == ((rd_T59 l1 x13_1).f0)) || (!((((rd_T59 l0 x13_1).f1).toList) == (((rd_T59 l1 x13_1).f1).toList)) || (!((((rd_T59 l0 x13_1).f2).toList) == (((rd_T59 l1 x13_1).f2).toList))))) = true
        ·rw [if_pos c8] at H
         have c8b0 : (!(((rd_T59 l0 x13_1).f0) == ((rd_T59 l1 x13_1).f0)) || (!((((rd_T59 l0 x13_1).f1).toList) == (((rd_T59 l1 x13_1).f1).toList)) || (!((((rd_T59 l0 x13_1).f2).toList) == (((rd_T59 l1 x13_1).f2).toList))))) = true := c8
         clear c8
         obtain rfl := Option.some.inj H
         have p101 : 0 ≤ (x13_1 : Int) := of_decide_eq_true (by first | (with_reducible assumption) | assumption)
         have q101 : x13_1 < (l0.length : Int) := of_decide_eq_true (by first | (with_reducible assumption) | assumption)
         obtain ⟨ad101, e101, hx101_0, hx101_1, hx101_2⟩ := at_T59 HR0.out x13_1 p101 q101
         cases e101
         replace p101 := eq_true p101
         replace q101 := eq_true q101
         have p102 : 0 ≤ (x13_1 : Int) := of_decide_eq_true (by first | (with_reducible assumption) | assumption)
         have q102 : x13_1 < (l1.length : Int) := of_decide_eq_true (by first | (with_reducible assumption) | assumption)
         obtain ⟨ad102, e102, hx102_0, hx102_1, hx102_2⟩ := at_T59 HR1.out x13_1 p102 q102
         cases e102
         replace p102 := eq_true p102
         replace q102 := eq_true q102
         go_wp2
         repeat (go_quiet (fail); try go_wp2)
         go_ret
         exact ⟨by first | rfl | (simp; done) | (simp [*]; done), by repeat (first | exact Drawn0.refl _ | apply Drawn0.step)⟩
        ·rw [if_neg c8] at H
         have c8b0 : (!(((rd_T59 l0 x13_1).f0) == ((rd_T59 l1 x13_1).f0)) || (!((((rd_T59 l0 x13_1).f1).toList) == (((rd_T59 l1 x13_1).f1).toList)) || (!((((rd_T59 l0 x13_1).f2).toList) == (((rd_T59 l1 x13_1).f2).toList))))) = false := by simpa using c8
         clear c8
         have H' := Aside0.mk H
         clear H
         have p101 : 0 ≤ (x13_1 : Int) := of_decide_eq_true (by first | (with_reducible assumption) | assumption)
         have q101 : x13_1 < (l0.length : Int) := of_decide_eq_true (by first | (with_reducible assumption) | assumption)
         obtain ⟨ad101, e101, hx101_0, hx101_1, hx101_2⟩ := at_T59 HR0.out x13_1 p101 q101
         cases e101
         replace p101 := eq_true p101
         replace q101 := eq_true q101
         have p102 : 0 ≤ (x13_1 : Int) := of_decide_eq_true (by first | (with_reducible assumption) | assumption)
         have q102 : x13_1 < (l1.length : Int) := of_decide_eq_true (by first | (with_reducible assumption) | assumption)
         obtain ⟨ad102, e102, hx102_0, hx102_1, hx102_2⟩ := at_T59 HR1.out x13_1 p102 q102
         cases e102
         replace p102 := eq_true p102
         replace q102 := eq_true q102
         go_wp2
         repeat (go_quiet (fail); try go_wp2)
         go_roundg k1
         case measure => have := HK1.out; omega
         case rel => exact ⟨(wrap64 (x13_1 + 1)), (by first | rfl | (simp; done) | (simp [*]; done)), H', ⟨by have := HK1.out; omega⟩, by repeat (first | exact Drawn0.refl _ | apply Drawn0.step)⟩
       ·rw [if_neg c7] at H
        exact absurd H (by simp)
      ·rw [if_neg c6] at H
       exact absurd H (by simp)
     ·rw [if_neg c5] at H
      exact absurd H (by simp)
    ·rw [if_neg c4] at H
     have c4b0 : decide (x13_1 < (l0.length : Int)) = false := decide_eq_false c4
     clear c4
     obtain rfl := Option.some.inj H
     go_wp2
     repeat (go_quiet (fail); try go_wp2)
     go_ret
     exact ⟨by first | rfl | (simp; done) | (simp [*]; done), by repeat (first | exact Drawn0.refl _ | apply Drawn0.step)⟩
 ·rw [if_neg c3] at H
  have c3b0 : ((l0.length : Int) == (l1.length : Int)) = false := beq_eq_false_iff_ne.mpr c3
  have c3b1 : ((l0.length : Int) != (l1.length : Int)) = true := bne_iff_ne.mpr c3
  have c3b2 : (l0.length == l1.length) = false := by first | simpa using c3 | (simp at c3 ⊢; omega)
  obtain rfl := Option.some.inj H
  go_enter Try.func17, Try.ntmps17
  go_wp2
  repeat (go_quiet (fail); try go_wp2)
  go_ret
  exact ⟨by first | rfl | (simp; done) | (simp [*]; done), by repeat (first | exact Drawn0.refl _ | apply Drawn0.step)⟩
end Go.Proofs.Ytbfiacnmielajaa.P
namespace Go.Proofs.Ytbfiacnmielajaa.P
open Go.RowKit Go.Proofs.YtbfiacnmielajaaW.PrintWords Go.Proofs.YtbfiacnmielajaaW.PrintLast Go.Proofs.YtbfiacnmielajaaW.PrintMore
attribute [local go_sem] max2_int min2_int max_two min_two max_three min_three max_four min_four
set_option linter.unusedVariables false
set_option linter.unusedSimpArgs false
attribute [local go_sem high] leq_str gtr_str
mutual
def tidepolelaw30_LabelsApart.j0 : Nat → List (S58) → List (S58) → Bool → Option (Bool)
 | 0, _, _, _ => none
 | k + 1, x0, x1, x18 => if x18 = true then ((tidepolelaw30_awake.f).bind fun t109 => (some t109)) else ((labels_Text.f k x0).bind fun bt110 => ((labels_Text.f k x1).bind fun bt112 => (if bt110.2 = 0 then (tidepolelaw30_LabelsApart.j1 k x0 x1 bt110.1 bt112.1 (bt112.2 != 0)) else (tidepolelaw30_LabelsApart.j1 k x0 x1 bt110.1 bt112.1 true))))
def tidepolelaw30_LabelsApart.j1 : Nat → List (S58) → List (S58) → ByteArray → ByteArray → Bool → Option (Bool)
 | 0, _, _, _, _, _ => none
 | k + 1, x0, x1, x5, x7, x35 => if x35 = true then ((tidepolelaw30_awake.f).bind fun t114 => (some t114)) else ((tidepolelaw30_ref.f k x0).bind fun t115 => ((tidepolelaw30_ref.f k x1).bind fun t118 => ((tidepolelaw30_same.f k t115 t118).bind fun t121 => (if ((x5.toList == x7.toList) == t121) = true then ((tidepolelaw30_awake.f).bind fun t122 => (some t122)) else (some false)))))
end
def tidepolelaw30_LabelsApart.f (k : Nat) (l0 : List (S58)) (l1 : List (S58)) : Option (Bool) := (tidepolelaw30_ref.f k l0).bind fun t101 => ((tidepolelaw30_small.f k t101).bind fun t104 => (if t104 = true then ((tidepolelaw30_ref.f k l1).bind fun t105 => ((tidepolelaw30_small.f k t105).bind fun t108 => (tidepolelaw30_LabelsApart.j0 k l0 l1 (!t108)))) else (tidepolelaw30_LabelsApart.j0 k l0 l1 true)))
set_option maxHeartbeats 8000000 in
set_option maxRecDepth 100000 in
theorem tidepolelaw30_LabelsApart.calls (k : Nat) (A0 : Option Addr) (c0 : Nat) (l0 : List (S58)) (A1 : Option Addr) (c1 : Nat) (l1 : List (S58)) (r : Bool) (w : World) (hr0 : Kd.C k58 w A0 l0.length l0) (hc0 : l0.length ≤ c0) (hr1 : Kd.C k58 w A1 l1.length l1) (hc1 : l1.length ≤ c1) (h : tidepolelaw30_LabelsApart.f k l0 l1 = some r) :
  Calls Try.prog 7 #[.slice A0 l0.length c0, .slice A1 l1.length c1] w fun e w' => e = .returned (.bool r) ∧ Below w.heap.size w w' := by
 have HR0 := Aside0.mk hr0
 have HC0 := Aside0.mk hc0
 clear hr0 hc0
 have HR1 := Aside0.mk hr1
 have HC1 := Aside0.mk hc1
 clear hr1 hc1
 have HB := Aside0.mk (Below.refl w.heap.size w)
 have H : ((tidepolelaw30_ref.f k l0).bind fun t101 => ((tidepolelaw30_small.f k t101).bind fun t104 => (if t104 = true then ((tidepolelaw30_ref.f k l1).bind fun t105 => ((tidepolelaw30_small.f k t105).bind fun t108 => (tidepolelaw30_LabelsApart.j0 k l0 l1 (!t108)))) else (tidepolelaw30_LabelsApart.j0 k l0 l1 true)))) = some r := h
 clear h
 have HC3 := Aside0.mk H
 clear H
 go_enter Try.func7, Try.ntmps7
 go_upto_region 1 with (fail)
 go_cut [18] (fun v18 wc => ∃ (kq : Nat) (x18_2 : Bool), v18 = .bool x18_2 ∧ Aside0 (tidepolelaw30_LabelsApart.j0 kq l0 l1 x18_2 = some r) ∧ Aside0 (kq ≤ k) ∧ Aside0 (Below w.heap.size w wc))
 case first =>
  have H := HC3.out
  clear HC3
  replace H := Option.bind_eq_some_iff.mp H
  obtain ⟨t101, A40, H⟩ := H
  replace H : ((tidepolelaw30_small.f k t101).bind fun t104 => (if t104 = true then ((tidepolelaw30_ref.f k l1).bind fun t105 => ((tidepolelaw30_small.f k t105).bind fun t108 => (tidepolelaw30_LabelsApart.j0 k l0 l1 (!t108)))) else (tidepolelaw30_LabelsApart.j0 k l0 l1 true))) = some r := H
  have A4 := Aside0.mk A40
  clear A40
  replace H := Option.bind_eq_some_iff.mp H
  obtain ⟨t104, A50, H⟩ := H
  replace H : (if t104 = true then ((tidepolelaw30_ref.f k l1).bind fun t105 => ((tidepolelaw30_small.f k t105).bind fun t108 => (tidepolelaw30_LabelsApart.j0 k l0 l1 (!t108)))) else (tidepolelaw30_LabelsApart.j0 k l0 l1 true)) = some r := H
  have A5 := Aside0.mk A50
  clear A50
  by_cases c6 : t104 = true
  ·subst c6
   have H1 : ((tidepolelaw30_ref.f k l1).bind fun t105 => ((tidepolelaw30_small.f k t105).bind fun t108 => (tidepolelaw30_LabelsApart.j0 k l0 l1 (!t108)))) = some r := by rw [if_pos rfl] at H; exact H
   clear H
   have H := H1
   clear H1
   replace H := Option.bind_eq_some_iff.mp H
   obtain ⟨t105, A70, H⟩ := H
   replace H : ((tidepolelaw30_small.f k t105).bind fun t108 => (tidepolelaw30_LabelsApart.j0 k l0 l1 (!t108))) = some r := H
   have A7 := Aside0.mk A70
   clear A70
   replace H := Option.bind_eq_some_iff.mp H
   obtain ⟨t108, A80, H⟩ := H
   replace H : (tidepolelaw30_LabelsApart.j0 k l0 l1 (!t108)) = some r := H
   have A8 := Aside0.mk A80
   clear A80
   have H' := Aside0.mk H
   clear H
   go_wp2_with (first | ((with_reducible refine gate_callee (f := 9) rfl ?_); refine goesL_ (some 10) rfl rfl Try.func9 (by kernel_rfl) rfl #[.slice A0 l0.length c0] rfl (by (try simp only [List.map_toArray, List.map_cons, List.map_nil]); first | done | rfl | (simp only [List.length_drop, List.length_take]; rfl)) ?_; (with_reducible refine (tidepolelaw30_ref.calls k _ _ l0 t101 _ ?side1 ?side2 A4.out).mono ?_); (case side1 => repeat (first | exact (Kd.C_below HR0.out HB.out) | (with_reducible refine Kd.C_alloc ?_ _) | (with_reducible refine Kd.C_drewN ?_ _) | (with_reducible refine Kd.C_drew ?_))); (case side2 => exact HC0.out); rintro e w9 ⟨v102, rfl, ho0, hb⟩; refine ⟨_, rfl, ?_⟩; have n0_ := Aside0.mk (Kd.R_lower ho0 (below_size (by repeat (first | (with_reducible first | exact HB.out | apply below_alloc | apply pw_below_drewN | apply below_drew1) | exact HB.out)))); have n1_ := Aside0.mk (below_step (by repeat (first | (with_reducible first | exact HB.out | apply below_alloc | apply pw_below_drewN | apply below_drew1) | exact HB.out)) hb); clear HB; have HO103 := n0_; have HB := n1_; clear n0_ n1_; (try clear hb); (try clear hb2); (try clear hk); (try clear hi); (try clear ho0); clear A4; obtain ⟨Ao10, co10, eo10⟩ := Kd.R_slice HO103.out; subst eo10) | ((with_reducible refine gate_callee (f := 10) rfl ?_); refine goesL_ (some 11) rfl rfl Try.func10 (by kernel_rfl) rfl #[.slice Ao10 t101.length co10] rfl (by (try simp only [List.map_toArray, List.map_cons, List.map_nil]); first | done | rfl | (simp only [List.length_drop, List.length_take]; rfl)) ?_; (with_reducible refine (tidepolelaw30_small.calls k _ _ t101 true _ ?side1 ?side2 A5.out).mono ?_); (case side1 => repeat (first | exact (Kd.R_reads' HO103.out).2.2 | (with_reducible refine Kd.C_alloc ?_ _) | (with_reducible refine Kd.C_drewN ?_ _) | (with_reducible refine Kd.C_drew ?_))); (case side2 => exact (Kd.R_reads' HO103.out).2.1); rintro e w11 ⟨rfl, hb⟩; refine ⟨_, rfl, ?_⟩; have n0_ := Aside0.mk (Kd.R_below (by (with_reducible repeat (first | apply Kd.R_alloc | apply Kd.R_drewN | apply Kd.R_drew)); exact HO103.out) hb); have n1_ := Aside0.mk (below_step (by repeat (first | (with_reducible first | exact HB.out | apply below_alloc | apply pw_below_drewN | apply below_drew1) | exact HB.out)) hb); clear HO103; clear HB; have HO103 := n0_; have HB := n1_; clear n0_ n1_; (try clear hb); (try clear hb2); (try clear hk); (try clear hi); clear A5) | (go_at_call 9; (with_reducible refine (tidepolelaw30_ref.calls k _ _ l1 t105 _ ?side1 ?side2 A7.out).mono ?_); (case side1 => repeat (first | exact (Kd.C_below HR1.out HB.out) | (with_reducible refine Kd.C_alloc ?_ _) | (with_reducible refine Kd.C_drewN ?_ _) | (with_reducible refine Kd.C_drew ?_))); (case side2 => exact HC1.out); rintro e w12 ⟨v106, rfl, ho0, hb⟩; have n0_ := Aside0.mk (Kd.R_elder' (by (with_reducible repeat (first | apply Kd.R_alloc | apply Kd.R_drewN | apply Kd.R_drew)); exact HO103.out) (Kd.R_base ho0) hb); have n1_ := Aside0.mk (Kd.R_lower (Kd.R_new' ho0 (Kd.R_lt (by (with_reducible repeat (first | apply Kd.R_alloc | apply Kd.R_drewN | apply Kd.R_drew)); exact HO103.out))) (below_size (by repeat (first | (with_reducible first | exact HB.out | apply below_alloc | apply pw_below_drewN | apply below_drew1) | exact HB.out)))); have n2_ := Aside0.mk (below_step (by repeat (first | (with_reducible first | exact HB.out | apply below_alloc | apply pw_below_drewN | apply below_drew1) | exact HB.out)) hb); clear HO103; clear HB; have HO103 := n0_; have HO107 := n1_; have HB := n2_; clear n0_ n1_ n2_; (try clear hb); (try clear hb2); (try clear hk); (try clear hi); (try clear ho0); clear A7; obtain ⟨Ao13, co13, eo13⟩ := Kd.R_slice HO107.out; subst eo13) | (go_at_call 10; (with_reducible refine (tidepolelaw30_small.calls k _ _ t105 t108 _ ?side1 ?side2 A8.out).mono ?_); (case side1 => repeat (first | exact (Kd.R_reads' HO107.out).2.2 | (with_reducible refine Kd.C_alloc ?_ _) | (with_reducible refine Kd.C_drewN ?_ _) | (with_reducible refine Kd.C_drew ?_))); (case side2 => exact (Kd.R_reads' HO107.out).2.1); rintro e w14 ⟨rfl, hb⟩; have n0_ := Aside0.mk (Kd.R_below (by (with_reducible repeat (first | apply Kd.R_alloc | apply Kd.R_drewN | apply Kd.R_drew)); exact HO103.out) hb); have n1_ := Aside0.mk (Kd.R_below (by (with_reducible repeat (first | apply Kd.R_alloc | apply Kd.R_drewN | apply Kd.R_drew)); exact HO107.out) hb); have n2_ := Aside0.mk (below_step (by repeat (first | (with_reducible first | exact HB.out | apply below_alloc | apply pw_below_drewN | apply below_drew1) | exact HB.out)) hb); clear HO103; clear HO107; clear HB; have HO103 := n0_; have HO107 := n1_; have HB := n2_; clear n0_ n1_ n2_; (try clear hb); (try clear hb2); (try clear hk); (try clear hi); clear A8))
   go_meet
   case rel => exact ⟨_, (!t108), (by first | rfl | (simp; done) | (simp [*]; done)), H', ⟨by first | omega | exact Nat.le_refl _⟩, ⟨by repeat (first | (with_reducible first | exact HB.out | apply below_alloc | apply pw_below_drewN | apply below_drew1) | exact HB.out)⟩⟩
  ·replace c6 := Bool.eq_false_iff.mpr c6
   subst c6
   have H1 : (tidepolelaw30_LabelsApart.j0 k l0 l1 true) = some r := by rw [if_neg (show ¬ (false = true) by decide)] at H; exact H
   clear H
   have H := H1
   clear H1
   have H' := Aside0.mk H
   clear H
   go_wp2_with (first | ((with_reducible refine gate_callee (f := 9) rfl ?_); refine goesL_ (some 10) rfl rfl Try.func9 (by kernel_rfl) rfl #[.slice A0 l0.length c0] rfl (by (try simp only [List.map_toArray, List.map_cons, List.map_nil]); first | done | rfl | (simp only [List.length_drop, List.length_take]; rfl)) ?_; (with_reducible refine (tidepolelaw30_ref.calls k _ _ l0 t101 _ ?side1 ?side2 A4.out).mono ?_); (case side1 => repeat (first | exact (Kd.C_below HR0.out HB.out) | (with_reducible refine Kd.C_alloc ?_ _) | (with_reducible refine Kd.C_drewN ?_ _) | (with_reducible refine Kd.C_drew ?_))); (case side2 => exact HC0.out); rintro e w15 ⟨v102, rfl, ho0, hb⟩; refine ⟨_, rfl, ?_⟩; have n0_ := Aside0.mk (Kd.R_lower ho0 (below_size (by repeat (first | (with_reducible first | exact HB.out | apply below_alloc | apply pw_below_drewN | apply below_drew1) | exact HB.out)))); have n1_ := Aside0.mk (below_step (by repeat (first | (with_reducible first | exact HB.out | apply below_alloc | apply pw_below_drewN | apply below_drew1) | exact HB.out)) hb); clear HB; have HO103 := n0_; have HB := n1_; clear n0_ n1_; (try clear hb); (try clear hb2); (try clear hk); (try clear hi); (try clear ho0); clear A4; obtain ⟨Ao16, co16, eo16⟩ := Kd.R_slice HO103.out; subst eo16) | ((with_reducible refine gate_callee (f := 10) rfl ?_); refine goesL_ (some 11) rfl rfl Try.func10 (by kernel_rfl) rfl #[.slice Ao16 t101.length co16] rfl (by (try simp only [List.map_toArray, List.map_cons, List.map_nil]); first | done | rfl | (simp only [List.length_drop, List.length_take]; rfl)) ?_; (with_reducible refine (tidepolelaw30_small.calls k _ _ t101 false _ ?side1 ?side2 A5.out).mono ?_); (case side1 => repeat (first | exact (Kd.R_reads' HO103.out).2.2 | (with_reducible refine Kd.C_alloc ?_ _) | (with_reducible refine Kd.C_drewN ?_ _) | (with_reducible refine Kd.C_drew ?_))); (case side2 => exact (Kd.R_reads' HO103.out).2.1); rintro e w17 ⟨rfl, hb⟩; refine ⟨_, rfl, ?_⟩; have n0_ := Aside0.mk (Kd.R_below (by (with_reducible repeat (first | apply Kd.R_alloc | apply Kd.R_drewN | apply Kd.R_drew)); exact HO103.out) hb); have n1_ := Aside0.mk (below_step (by repeat (first | (with_reducible first | exact HB.out | apply below_alloc | apply pw_below_drewN | apply below_drew1) | exact HB.out)) hb); clear HO103; clear HB; have HO103 := n0_; have HB := n1_; clear n0_ n1_; (try clear hb); (try clear hb2); (try clear hk); (try clear hi); clear A5))
   go_meet
   case rel => exact ⟨_, (true), (by first | rfl | (simp; done) | (simp [*]; done)), H', ⟨by first | omega | exact Nat.le_refl _⟩, ⟨by repeat (first | (with_reducible first | exact HB.out | apply below_alloc | apply pw_below_drewN | apply below_drew1) | exact HB.out)⟩⟩
 case rest =>
  clear HC3
  try clear c1
  try clear p2
  try clear c6
  try clear c7
  try clear c9
  try clear c10
  obtain ⟨kq, x18_2, rfl, HA, HJ2, HB⟩ := hcut
  cases kq with
  | zero => exact absurd HA.out (by simp [tidepolelaw30_LabelsApart.j0])
  | succ kj2 =>
   have H := HA.out
   clear HA
   simp only [tidepolelaw30_LabelsApart.j0] at H
   by_cases c18 : x18_2 = true
   ·subst c18
    have H1 : ((tidepolelaw30_awake.f).bind fun t109 => (some t109)) = some r := by rw [if_pos rfl] at H; exact H
    clear H
    have H := H1
    clear H1
    replace H := Option.bind_eq_some_iff.mp H
    obtain ⟨t109, A190, H⟩ := H
    replace H : (some t109) = some r := H
    have A19 := Aside0.mk A190
    clear A190
    obtain rfl := Option.some.inj H
    go_wp2_with (first | ((with_reducible refine gate_callee (f := 11) rfl ?_); refine goesL_ (some 19) rfl rfl Try.func11 (by kernel_rfl) rfl #[] rfl (by (try simp only [List.map_toArray, List.map_cons, List.map_nil]); first | done | rfl | (simp only [List.length_drop, List.length_take]; rfl)) ?_; (with_reducible refine (tidepolelaw30_awake.calls  t109 _ A19.out).mono ?_); rintro e w20 ⟨rfl, hb⟩; refine ⟨_, rfl, ?_⟩; have n0_ := Aside0.mk (below_step (by repeat (first | (with_reducible first | exact HB.out | apply below_alloc | apply pw_below_drewN | apply below_drew1) | exact HB.out)) hb); clear HB; have HB := n0_; clear n0_; (try clear hb); (try clear hb2); (try clear hk); (try clear hi); clear A19))
    go_ret
    exact ⟨by first | rfl | (simp [errW_none, errW_some] <;> rfl) | (simp [*, errW_none, errW_some] <;> rfl), by repeat (first | (with_reducible first | exact HB.out | apply below_alloc | apply pw_below_drewN | apply below_drew1) | exact HB.out)⟩
   ·replace c18 := Bool.eq_false_iff.mpr c18
    subst c18
    have H1 : ((labels_Text.f kj2 l0).bind fun bt110 => ((labels_Text.f kj2 l1).bind fun bt112 => (if bt110.2 = 0 then (tidepolelaw30_LabelsApart.j1 kj2 l0 l1 bt110.1 bt112.1 (bt112.2 != 0)) else (tidepolelaw30_LabelsApart.j1 kj2 l0 l1 bt110.1 bt112.1 true)))) = some r := by rw [if_neg (show ¬ (false = true) by decide)] at H; exact H
    clear H
    have H := H1
    clear H1
    replace H := Option.bind_eq_some_iff.mp H
    obtain ⟨⟨t110, t111⟩, A210, H⟩ := H
    replace H : ((labels_Text.f kj2 l1).bind fun bt112 => (if t111 = 0 then (tidepolelaw30_LabelsApart.j1 kj2 l0 l1 t110 bt112.1 (bt112.2 != 0)) else (tidepolelaw30_LabelsApart.j1 kj2 l0 l1 t110 bt112.1 true))) = some r := H
    have A21 := Aside0.mk A210
    clear A210
    replace H := Option.bind_eq_some_iff.mp H
    obtain ⟨⟨t112, t113⟩, A220, H⟩ := H
    replace H : (if t111 = 0 then (tidepolelaw30_LabelsApart.j1 kj2 l0 l1 t110 t112 (t113 != 0)) else (tidepolelaw30_LabelsApart.j1 kj2 l0 l1 t110 t112 true)) = some r := H
    have A22 := Aside0.mk A220
    clear A220
    have HC23 := Aside0.mk H
    clear H
    go_upto_region 5 with (first | ((with_reducible refine gate_callee (f := 13) rfl ?_); refine goesL_ (some 22) rfl rfl Try.func13 (by kernel_rfl) rfl #[.slice A0 l0.length c0] rfl (by (try simp only [List.map_toArray, List.map_cons, List.map_nil]); first | done | rfl | (simp only [List.length_drop, List.length_take]; rfl)) ?_; (with_reducible refine (labels_Text.calls kj2 _ _ l0 t110 t111 _ ?side1 ?side2 A21.out).mono ?_); (case side1 => repeat (first | exact (Kd.C_below HR0.out HB.out) | (with_reducible refine Kd.C_alloc ?_ _) | (with_reducible refine Kd.C_drewN ?_ _) | (with_reducible refine Kd.C_drew ?_))); (case side2 => exact HC0.out); rintro e w24 ⟨rfl, hb⟩; refine ⟨_, rfl, ?_⟩; have n0_ := Aside0.mk (below_step (by repeat (first | (with_reducible first | exact HB.out | apply below_alloc | apply pw_below_drewN | apply below_drew1) | exact HB.out)) hb); clear HB; have HB := n0_; clear n0_; (try clear hb); (try clear hb2); (try clear hk); (try clear hi); clear A21) | ((with_reducible refine gate_callee (f := 13) rfl ?_); refine goesL_ (some 27) rfl rfl Try.func13 (by kernel_rfl) rfl #[.slice A1 l1.length c1] rfl (by (try simp only [List.map_toArray, List.map_cons, List.map_nil]); first | done | rfl | (simp only [List.length_drop, List.length_take]; rfl)) ?_; (with_reducible refine (labels_Text.calls kj2 _ _ l1 t112 t113 _ ?side1 ?side2 A22.out).mono ?_); (case side1 => repeat (first | exact (Kd.C_below HR1.out HB.out) | (with_reducible refine Kd.C_alloc ?_ _) | (with_reducible refine Kd.C_drewN ?_ _) | (with_reducible refine Kd.C_drew ?_))); (case side2 => exact HC1.out); rintro e w25 ⟨rfl, hb⟩; refine ⟨_, rfl, ?_⟩; have n0_ := Aside0.mk (below_step (by repeat (first | (with_reducible first | exact HB.out | apply below_alloc | apply pw_below_drewN | apply below_drew1) | exact HB.out)) hb); clear HB; have HB := n0_; clear n0_; (try clear hb); (try clear hb2); (try clear hk); (try clear hi); clear A22))
    (try simp only [Act.put, List.setIfInBounds_toArray, List.set_cons_zero, List.set_cons_succ])
    go_cut [35] (fun v35 wc => ∃ (kq : Nat) (x35_22 : Bool), v35 = .bool x35_22 ∧ Aside0 (tidepolelaw30_LabelsApart.j1 kq l0 l1 t110 t112 x35_22 = some r) ∧ Aside0 (kq ≤ kj2) ∧ Aside0 (Below w.heap.size w wc))
    case first =>
     have H := HC23.out
     clear HC23
     by_cases c26 : t111 = 0
     ·rw [if_pos c26] at H
      have c26b0 : (t111 == 0) = true := beq_iff_eq.mpr c26
      have c26b1 : (t111 != 0) = false := bne_eq_false_iff_eq.mpr c26
      clear c26
      (first | rw [c26b0] | (simp only [i64_w, i32_w]; rw [c26b0]) | skip)
      have H' := Aside0.mk H
      clear H
      go_wp2
      go_meet
      case rel => exact ⟨_, ((t113 != 0)), (by first | rfl | (simp; done) | (simp [*]; done)), H', ⟨by have := HJ2.out; first | omega | exact Nat.le_refl _⟩, ⟨by repeat (first | (with_reducible first | exact HB.out | apply below_alloc | apply pw_below_drewN | apply below_drew1) | exact HB.out)⟩⟩
     ·rw [if_neg c26] at H
      have c26b0 : (t111 == 0) = false := beq_eq_false_iff_ne.mpr c26
      have c26b1 : (t111 != 0) = true := bne_iff_ne.mpr c26
      (first | rw [c26b0] | (simp only [i64_w, i32_w]; rw [c26b0]) | skip)
      have H' := Aside0.mk H
      clear H
      go_wp2
      go_meet
      case rel => exact ⟨_, (true), (by first | rfl | (simp; done) | (simp [*]; done)), H', ⟨by have := HJ2.out; first | omega | exact Nat.le_refl _⟩, ⟨by repeat (first | (with_reducible first | exact HB.out | apply below_alloc | apply pw_below_drewN | apply below_drew1) | exact HB.out)⟩⟩
    case rest =>
     clear HC23
     try clear c1
     try clear c2
     try clear p2
     try clear c6
     try clear c7
     try clear c9
     try clear c10
     try clear c11
     try clear c13
     try clear c18
     try clear c26
     try clear c26b0
     try clear c26b1
     try clear p2
     obtain ⟨kq, x35_22, rfl, HA, HJ22, HB⟩ := hcut
     cases kq with
     | zero => exact absurd HA.out (by simp [tidepolelaw30_LabelsApart.j1])
     | succ kj22 =>
      have H := HA.out
      clear HA
      simp only [tidepolelaw30_LabelsApart.j1] at H
      by_cases c27 : x35_22 = true
      ·subst c27
       have H1 : ((tidepolelaw30_awake.f).bind fun t114 => (some t114)) = some r := by rw [if_pos rfl] at H; exact H
       clear H
       have H := H1
       clear H1
       replace H := Option.bind_eq_some_iff.mp H
       obtain ⟨t114, A280, H⟩ := H
       replace H : (some t114) = some r := H
       have A28 := Aside0.mk A280
       clear A280
       obtain rfl := Option.some.inj H
       go_wp2_with (first | ((with_reducible refine gate_callee (f := 11) rfl ?_); refine goesL_ (some 36) rfl rfl Try.func11 (by kernel_rfl) rfl #[] rfl (by (try simp only [List.map_toArray, List.map_cons, List.map_nil]); first | done | rfl | (simp only [List.length_drop, List.length_take]; rfl)) ?_; (with_reducible refine (tidepolelaw30_awake.calls  t114 _ A28.out).mono ?_); rintro e w29 ⟨rfl, hb⟩; refine ⟨_, rfl, ?_⟩; have n0_ := Aside0.mk (below_step (by repeat (first | (with_reducible first | exact HB.out | apply below_alloc | apply pw_below_drewN | apply below_drew1) | exact HB.out)) hb); clear HB; have HB := n0_; clear n0_; (try clear hb); (try clear hb2); (try clear hk); (try clear hi); clear A28))
       go_ret
       exact ⟨by first | rfl | (simp [errW_none, errW_some] <;> rfl) | (simp [*, errW_none, errW_some] <;> rfl), by repeat (first | (with_reducible first | exact HB.out | apply below_alloc | apply pw_below_drewN | apply below_drew1) | exact HB.out)⟩
      ·replace c27 := Bool.eq_false_iff.mpr c27
       subst c27
       have H1 : ((tidepolelaw30_ref.f kj22 l0).bind fun t115 => ((tidepolelaw30_ref.f kj22 l1).bind fun t118 => ((tidepolelaw30_same.f kj22 t115 t118).bind fun t121 => (if ((t110.toList == t112.toList) == t121) = true then ((tidepolelaw30_awake.f).bind fun t122 => (some t122)) else (some false))))) = some r := by rw [if_neg (show ¬ (false = true) by decide)] at H; exact H
       clear H
       have H := H1
       clear H1
       replace H := Option.bind_eq_some_iff.mp H
       obtain ⟨t115, A300, H⟩ := H
       replace H : ((tidepolelaw30_ref.f kj22 l1).bind fun t118 => ((tidepolelaw30_same.f kj22 t115 t118).bind fun t121 => (if ((t110.toList == t112.toList) == t121) = true then ((tidepolelaw30_awake.f).bind fun t122 => (some t122)) else (some false)))) = some r := H
       have A30 := Aside0.mk A300
       clear A300
       replace H := Option.bind_eq_some_iff.mp H
       obtain ⟨t118, A310, H⟩ := H
       replace H : ((tidepolelaw30_same.f kj22 t115 t118).bind fun t121 => (if ((t110.toList == t112.toList) == t121) = true then ((tidepolelaw30_awake.f).bind fun t122 => (some t122)) else (some false))) = some r := H
       have A31 := Aside0.mk A310
       clear A310
       replace H := Option.bind_eq_some_iff.mp H
       obtain ⟨t121, A320, H⟩ := H
       replace H : (if ((t110.toList == t112.toList) == t121) = true then ((tidepolelaw30_awake.f).bind fun t122 => (some t122)) else (some false)) = some r := H
       have A32 := Aside0.mk A320
       clear A320
       by_cases c33 : ((t110.toList == t112.toList) == t121) = true
       ·rw [if_pos c33] at H
        have c33b0 : ((t110.toList == t112.toList) == t121) = true := c33
        (try (have c33b1 : decide ((t110.toList == t112.toList) = t121) = true := by simpa using c33))
        (try (have c33b2 : ((t110.toList == t112.toList) == t121) = true := by simpa using c33))
        clear c33
        replace H := Option.bind_eq_some_iff.mp H
        obtain ⟨t122, A340, H⟩ := H
        replace H : (some t122) = some r := H
        have A34 := Aside0.mk A340
        clear A340
        obtain rfl := Option.some.inj H
        go_wp2_with (first | ((with_reducible refine gate_callee (f := 9) rfl ?_); refine goesL_ (some 41) rfl rfl Try.func9 (by kernel_rfl) rfl #[.slice A0 l0.length c0] rfl (by (try simp only [List.map_toArray, List.map_cons, List.map_nil]); first | done | rfl | (simp only [List.length_drop, List.length_take]; rfl)) ?_; (with_reducible refine (tidepolelaw30_ref.calls kj22 _ _ l0 t115 _ ?side1 ?side2 A30.out).mono ?_); (case side1 => repeat (first | exact (Kd.C_below HR0.out HB.out) | (with_reducible refine Kd.C_alloc ?_ _) | (with_reducible refine Kd.C_drewN ?_ _) | (with_reducible refine Kd.C_drew ?_))); (case side2 => exact HC0.out); rintro e w35 ⟨v116, rfl, ho0, hb⟩; refine ⟨_, rfl, ?_⟩; have n0_ := Aside0.mk (Kd.R_lower ho0 (below_size (by repeat (first | (with_reducible first | exact HB.out | apply below_alloc | apply pw_below_drewN | apply below_drew1) | exact HB.out)))); have n1_ := Aside0.mk (below_step (by repeat (first | (with_reducible first | exact HB.out | apply below_alloc | apply pw_below_drewN | apply below_drew1) | exact HB.out)) hb); clear HB; have HO117 := n0_; have HB := n1_; clear n0_ n1_; (try clear hb); (try clear hb2); (try clear hk); (try clear hi); (try clear ho0); clear A30) | ((with_reducible refine gate_callee (f := 9) rfl ?_); refine goesL_ (some 43) rfl rfl Try.func9 (by kernel_rfl) rfl #[.slice A1 l1.length c1] rfl (by (try simp only [List.map_toArray, List.map_cons, List.map_nil]); first | done | rfl | (simp only [List.length_drop, List.length_take]; rfl)) ?_; (with_reducible refine (tidepolelaw30_ref.calls kj22 _ _ l1 t118 _ ?side1 ?side2 A31.out).mono ?_); (case side1 => repeat (first | exact (Kd.C_below HR1.out HB.out) | (with_reducible refine Kd.C_alloc ?_ _) | (with_reducible refine Kd.C_drewN ?_ _) | (with_reducible refine Kd.C_drew ?_))); (case side2 => exact HC1.out); rintro e w36 ⟨v119, rfl, ho0, hb⟩; refine ⟨_, rfl, ?_⟩; have n0_ := Aside0.mk (Kd.R_elder' (by (with_reducible repeat (first | apply Kd.R_alloc | apply Kd.R_drewN | apply Kd.R_drew)); exact HO117.out) (Kd.R_base ho0) hb); have n1_ := Aside0.mk (Kd.R_lower (Kd.R_new' ho0 (Kd.R_lt (by (with_reducible repeat (first | apply Kd.R_alloc | apply Kd.R_drewN | apply Kd.R_drew)); exact HO117.out))) (below_size (by repeat (first | (with_reducible first | exact HB.out | apply below_alloc | apply pw_below_drewN | apply below_drew1) | exact HB.out)))); have n2_ := Aside0.mk (below_step (by repeat (first | (with_reducible first | exact HB.out | apply below_alloc | apply pw_below_drewN | apply below_drew1) | exact HB.out)) hb); clear HO117; clear HB; have HO117 := n0_; have HO120 := n1_; have HB := n2_; clear n0_ n1_ n2_; (try clear hb); (try clear hb2); (try clear hk); (try clear hi); (try clear ho0); clear A31; obtain ⟨Ao37, co37, eo37⟩ := Kd.R_slice HO117.out; subst eo37; obtain ⟨Ao38, co38, eo38⟩ := Kd.R_slice HO120.out; subst eo38) | ((with_reducible refine gate_callee (f := 17) rfl ?_); refine goesL_ (some 44) rfl rfl Try.func17 (by kernel_rfl) rfl #[.slice Ao37 t115.length co37, .slice Ao38 t118.length co38] rfl (by (try simp only [List.map_toArray, List.map_cons, List.map_nil]); first | done | rfl | (simp only [List.length_drop, List.length_take]; rfl)) ?_; (with_reducible refine (tidepolelaw30_same.calls kj22 _ _ t115 _ _ t118 t121 _ ?side1 ?side2 ?side3 ?side4 A32.out).mono ?_); (case side1 => repeat (first | exact (Kd.R_reads' HO117.out).2.2 | (with_reducible refine Kd.C_alloc ?_ _) | (with_reducible refine Kd.C_drewN ?_ _) | (with_reducible refine Kd.C_drew ?_))); (case side2 => exact (Kd.R_reads' HO117.out).2.1); (case side3 => repeat (first | exact (Kd.R_reads' HO120.out).2.2 | (with_reducible refine Kd.C_alloc ?_ _) | (with_reducible refine Kd.C_drewN ?_ _) | (with_reducible refine Kd.C_drew ?_))); (case side4 => exact (Kd.R_reads' HO120.out).2.1); rintro e w' ⟨rfl, ⟨nd, rfl⟩⟩; refine ⟨_, rfl, ?_⟩; clear A32) | (go_at_call 11; (with_reducible refine (tidepolelaw30_awake.calls  t122 _ A34.out).mono ?_); rintro e w39 ⟨rfl, hb⟩; have n0_ := Aside0.mk (Kd.R_below (by (with_reducible repeat (first | apply Kd.R_alloc | apply Kd.R_drewN | apply Kd.R_drew)); exact HO117.out) hb); have n1_ := Aside0.mk (Kd.R_below (by (with_reducible repeat (first | apply Kd.R_alloc | apply Kd.R_drewN | apply Kd.R_drew)); exact HO120.out) hb); have n2_ := Aside0.mk (below_step (by repeat (first | (with_reducible first | exact HB.out | apply below_alloc | apply pw_below_drewN | apply below_drew1) | exact HB.out)) hb); clear HO117; clear HO120; clear HB; have HO117 := n0_; have HO120 := n1_; have HB := n2_; clear n0_ n1_ n2_; (try clear hb); (try clear hb2); (try clear hk); (try clear hi); clear A34))
        go_ret
        exact ⟨by first | rfl | (simp [errW_none, errW_some] <;> rfl) | (simp [*, errW_none, errW_some] <;> rfl), by repeat (first | (with_reducible first | exact HB.out | apply below_alloc | apply pw_below_drewN | apply below_drew1) | exact HB.out)⟩
       ·rw [if_neg c33] at H
        have c33b0 : ((t110.toList == t112.toList) == t121) = false := by simpa using c33
        (try (have c33b1 : decide ((t110.toList == t112.toList) = t121) = false := by simpa using c33))
        (try (have c33b2 : ((t110.toList == t112.toList) == t121) = false := by simpa using c33))
        (try (have c33b3 : ¬ ((t110.toList == t112.toList) = t121) := by simpa using c33))
        clear c33
        obtain rfl := Option.some.inj H
        go_wp2_with (first | ((with_reducible refine gate_callee (f := 9) rfl ?_); refine goesL_ (some 41) rfl rfl Try.func9 (by kernel_rfl) rfl #[.slice A0 l0.length c0] rfl (by (try simp only [List.map_toArray, List.map_cons, List.map_nil]); first | done | rfl | (simp only [List.length_drop, List.length_take]; rfl)) ?_; (with_reducible refine (tidepolelaw30_ref.calls kj22 _ _ l0 t115 _ ?side1 ?side2 A30.out).mono ?_); (case side1 => repeat (first | exact (Kd.C_below HR0.out HB.out) | (with_reducible refine Kd.C_alloc ?_ _) | (with_reducible refine Kd.C_drewN ?_ _) | (with_reducible refine Kd.C_drew ?_))); (case side2 => exact HC0.out); rintro e w40 ⟨v116, rfl, ho0, hb⟩; refine ⟨_, rfl, ?_⟩; have n0_ := Aside0.mk (Kd.R_lower ho0 (below_size (by repeat (first | (with_reducible first | exact HB.out | apply below_alloc | apply pw_below_drewN | apply below_drew1) | exact HB.out)))); have n1_ := Aside0.mk (below_step (by repeat (first | (with_reducible first | exact HB.out | apply below_alloc | apply pw_below_drewN | apply below_drew1) | exact HB.out)) hb); clear HB; have HO117 := n0_; have HB := n1_; clear n0_ n1_; (try clear hb); (try clear hb2); (try clear hk); (try clear hi); (try clear ho0); clear A30) | ((with_reducible refine gate_callee (f := 9) rfl ?_); refine goesL_ (some 43) rfl rfl Try.func9 (by kernel_rfl) rfl #[.slice A1 l1.length c1] rfl (by (try simp only [List.map_toArray, List.map_cons, List.map_nil]); first | done | rfl | (simp only [List.length_drop, List.length_take]; rfl)) ?_; (with_reducible refine (tidepolelaw30_ref.calls kj22 _ _ l1 t118 _ ?side1 ?side2 A31.out).mono ?_); (case side1 => repeat (first | exact (Kd.C_below HR1.out HB.out) | (with_reducible refine Kd.C_alloc ?_ _) | (with_reducible refine Kd.C_drewN ?_ _) | (with_reducible refine Kd.C_drew ?_))); (case side2 => exact HC1.out); rintro e w41 ⟨v119, rfl, ho0, hb⟩; refine ⟨_, rfl, ?_⟩; have n0_ := Aside0.mk (Kd.R_elder' (by (with_reducible repeat (first | apply Kd.R_alloc | apply Kd.R_drewN | apply Kd.R_drew)); exact HO117.out) (Kd.R_base ho0) hb); have n1_ := Aside0.mk (Kd.R_lower (Kd.R_new' ho0 (Kd.R_lt (by (with_reducible repeat (first | apply Kd.R_alloc | apply Kd.R_drewN | apply Kd.R_drew)); exact HO117.out))) (below_size (by repeat (first | (with_reducible first | exact HB.out | apply below_alloc | apply pw_below_drewN | apply below_drew1) | exact HB.out)))); have n2_ := Aside0.mk (below_step (by repeat (first | (with_reducible first | exact HB.out | apply below_alloc | apply pw_below_drewN | apply below_drew1) | exact HB.out)) hb); clear HO117; clear HB; have HO117 := n0_; have HO120 := n1_; have HB := n2_; clear n0_ n1_ n2_; (try clear hb); (try clear hb2); (try clear hk); (try clear hi); (try clear ho0); clear A31; obtain ⟨Ao42, co42, eo42⟩ := Kd.R_slice HO117.out; subst eo42; obtain ⟨Ao43, co43, eo43⟩ := Kd.R_slice HO120.out; subst eo43) | ((with_reducible refine gate_callee (f := 17) rfl ?_); refine goesL_ (some 44) rfl rfl Try.func17 (by kernel_rfl) rfl #[.slice Ao42 t115.length co42, .slice Ao43 t118.length co43] rfl (by (try simp only [List.map_toArray, List.map_cons, List.map_nil]); first | done | rfl | (simp only [List.length_drop, List.length_take]; rfl)) ?_; (with_reducible refine (tidepolelaw30_same.calls kj22 _ _ t115 _ _ t118 t121 _ ?side1 ?side2 ?side3 ?side4 A32.out).mono ?_); (case side1 => repeat (first | exact (Kd.R_reads' HO117.out).2.2 | (with_reducible refine Kd.C_alloc ?_ _) | (with_reducible refine Kd.C_drewN ?_ _) | (with_reducible refine Kd.C_drew ?_))); (case side2 => exact (Kd.R_reads' HO117.out).2.1); (case side3 => repeat (first | exact (Kd.R_reads' HO120.out).2.2 | (with_reducible refine Kd.C_alloc ?_ _) | (with_reducible refine Kd.C_drewN ?_ _) | (with_reducible refine Kd.C_drew ?_))); (case side4 => exact (Kd.R_reads' HO120.out).2.1); rintro e w' ⟨rfl, ⟨nd, rfl⟩⟩; refine ⟨_, rfl, ?_⟩; clear A32))
        go_ret
        exact ⟨by first | rfl | (simp [errW_none, errW_some] <;> rfl) | (simp [*, errW_none, errW_some] <;> rfl), by repeat (first | (with_reducible first | exact HB.out | apply below_alloc | apply pw_below_drewN | apply below_drew1) | exact HB.out)⟩
end Go.Proofs.Ytbfiacnmielajaa.P
namespace Go.Proofs.Ytbfiacnmielajaa.P
open Go.RowKit Go.Proofs.YtbfiacnmielajaaW.PrintWords Go.Proofs.YtbfiacnmielajaaW.PrintLast Go.Proofs.YtbfiacnmielajaaW.PrintMore
attribute [local go_sem] max2_int min2_int max_two min_two max_three min_three max_four min_four
set_option linter.unusedVariables false
set_option linter.unusedSimpArgs false
def Opens {α : Type} (P : Program) (t : TypeId) (d : Kd α) (wf : α → Prop) : Prop := ∀ {H : Type} (enc : TypeId × Value → H) (w : World) (base : Nat) (sp : Nat → Bool) (held : Bool) (fuel : Nat) (cs : List Value) (x : DataW H × List MemPlace),
 DataW.trod enc P w base sp held fuel t cs = some x → ∃ y, d.K w y cs ∧ wf y
def wfStr (s : ByteArray) : Prop := s.size ≤ 9223372036854775807
theorem opens_string {P : Program} {t : TypeId} (ht : P.underlying t = some .string) : Opens P t Kd.string wfStr := by
 intro H enc w base sp held fuel cs x h
 obtain ⟨s, rfl, _, hw⟩ := DataW.trod_string ht h
 exact ⟨s, rfl, hw⟩
theorem opens_slice {α : Type} {P : Program} {t e : TypeId} {d : Kd α} {wf : α → Prop} (ht : P.underlying t = some (.slice e)) (hs : P.cellsOf e = d.sz) (ho : Opens P e d wf) : Opens P t (Kd.slice e d) (fun xs => ∀ x ∈ xs, wf x) := by
 intro H enc w base sp held fuel cs x h
 rcases Deep.open_slice ht h with ⟨rfl, _⟩ | ⟨a, len, cap, m, n, D, Pl, rfl, hb, hl, hm, hmm, _, hx⟩
 ·exact ⟨[], ⟨none, 0, rfl, Nat.le_refl _, Kd.C_nil _ _⟩, fun x hx => by cases hx⟩
 ·have hlm : len ≤ m := by rw [hmm]; split <;> omega
  unfold maxLen at hm
  rw [hs] at hx
  have each : ∀ i, i < len → ∃ y : α, (∃ cs', cs'.length = d.sz ∧ d.K w y cs' ∧ ∀ j u, cs'[j]? = some u → w.cell? (a.add (i * d.sz + j)) = some u) ∧ wf y := by
   intro i hi
   obtain ⟨cs', h1, h2⟩ := hx i (by omega)
   obtain ⟨y, hk, hw⟩ := ho _ _ _ _ _ _ _ _ h2
   obtain ⟨_, hlen, hcell⟩ := World.cells?_some h1
   refine ⟨y, ⟨cs', hlen, hk, fun j u hu => ?_⟩, hw⟩
   have hj : j < cs'.length := (List.getElem?_eq_some_iff.1 hu).1
   have := hcell j (by omega)
   rw [Deep.add_add] at this
   rw [this]; exact hu
  by_cases h0 : len = 0
  ·subst h0
   exact ⟨[], ⟨some a, cap, rfl, Nat.zero_le _, ⟨rfl, by simp, fun h => absurd h (Nat.lt_irrefl 0)⟩⟩, fun x hx => by cases hx⟩
  ·obtain ⟨y0, _⟩ := each 0 (by omega)
   have : Inhabited α := ⟨y0⟩
   obtain ⟨f, hf⟩ := Deep.choose_lt each
   refine ⟨(List.range len).map f, ⟨some a, cap, by simp, by simpa using hl, ⟨by simp, by simp; omega, fun _ => ⟨a, rfl, fun j p hj => ?_⟩⟩⟩, fun x hx => ?_⟩
   ·rw [List.getElem?_map] at hj
    obtain ⟨i, hi, rfl⟩ := Option.map_eq_some_iff.1 hj
    obtain ⟨hlt, rfl⟩ := List.getElem?_eq_some_iff.1 hi
    simp only [List.length_range] at hlt
    simp only [List.getElem_range]
    obtain ⟨cs', h1, h2, h3⟩ := (hf j hlt).1
    exact ⟨cs', h1, h2, h3⟩
   ·obtain ⟨i, hi, rfl⟩ := List.mem_map.1 hx
    exact (hf i (List.mem_range.1 hi)).2
def wf58 (x : S58) : Prop := wfStr x.f0 ∧ wfStr x.f1
set_option maxRecDepth 100000 in
theorem opens58 : Opens Try.prog 58 k58 wf58 := by
 intro H enc w base sp held fuel cs x h
 obtain ⟨xs, n, rfl, _, hl, hxl, hf⟩ := DataW.trod_struct Try.underlying58 h
 have hc : cs.length = 2 := hl.trans (by kernel_rfl)
 match cs, hc with
 | [c0, c1], _ =>
  have g0 : DataW.trod enc Try.prog w base sp held n 9 ((([c0, c1] : List Value).drop 0).take (Try.prog.cellsOf 9)) = xs[0]? := hf 0 _ rfl
  rw [show Try.prog.cellsOf 9 = 1 from by kernel_rfl] at g0
  have e0 : xs[0]? = some (xs[0]'(by rw [hxl]; decide)) := List.getElem?_eq_getElem _
  have g1 : DataW.trod enc Try.prog w base sp held n 9 ((([c0, c1] : List Value).drop 1).take (Try.prog.cellsOf 9)) = xs[1]? := hf 1 _ rfl
  rw [show Try.prog.cellsOf 9 = 1 from by kernel_rfl] at g1
  have e1 : xs[1]? = some (xs[1]'(by rw [hxl]; decide)) := List.getElem?_eq_getElem _
  obtain ⟨y0, hk0, hw0⟩ := (opens_string Try.underlying9) enc w base sp held n [c0] _ (g0.trans e0)
  injection (show [c0] = [Value.string y0] from hk0) with he0 _
  subst he0
  obtain ⟨y1, hk1, hw1⟩ := (opens_string Try.underlying9) enc w base sp held n [c1] _ (g1.trans e1)
  injection (show [c1] = [Value.string y1] from hk1) with he1 _
  subst he1
  exact ⟨⟨y0, y1⟩, k58_mk w ⟨y0, y1⟩ , ⟨hw0, hw1⟩⟩
end Go.Proofs.Ytbfiacnmielajaa.P
namespace Go.Proofs.Ytbfiacnmielajaa.P
def headSigns : List Char := List.map Char.ofNat [104, 97, 114, 110, 101, 115, 115, 32, 100, 53, 48, 53, 51, 102, 57, 55, 55, 51, 52, 49, 100, 52, 97, 100, 53, 101, 97, 57, 102, 54, 57, 55, 98, 97, 57, 97, 54, 97, 53, 54, 97, 99, 100, 100, 99, 53, 53, 102, 100, 98, 101, 98, 52, 49, 50, 55, 100, 49, 52, 55, 57, 55, 50, 98, 49, 48, 51, 101, 53, 100, 48, 50, 32, 99, 117, 116, 32, 97, 116, 32, 116, 105, 100, 101, 112, 111, 108, 101, 47, 116, 105, 100, 101, 112, 111, 108, 101, 108, 97, 119, 51, 48, 46, 76, 97, 98, 101, 108, 115, 84, 101, 120, 116, 115, 32, 116, 105, 100, 101, 112, 111, 108, 101, 47, 116, 105, 100, 101, 112, 111, 108, 101, 108, 97, 119, 51, 48, 46, 76, 97, 98, 101, 108, 115, 80, 97, 114, 115, 101, 115, 32, 116, 105, 100, 101, 112, 111, 108, 101, 47, 116, 105, 100, 101, 112, 111, 108, 101, 108, 97, 119, 51, 48, 46, 76, 97, 98, 101, 108, 115, 77, 97, 116, 99, 104, 101, 115, 32, 116, 105, 100, 101, 112, 111, 108, 101, 47, 116, 105, 100, 101, 112, 111, 108, 101, 108, 97, 119, 51, 48, 46, 76, 97, 98, 101, 108, 115, 79, 114, 100, 101, 114, 32, 116, 105, 100, 101, 112, 111, 108, 101, 47, 116, 105, 100, 101, 112, 111, 108, 101, 108, 97, 119, 51, 48, 46, 76, 97, 98, 101, 108, 115, 65, 112, 97, 114, 116, 32, 116, 105, 100, 101, 112, 111, 108, 101, 47, 116, 105, 100, 101, 112, 111, 108, 101, 108, 97, 119, 51, 48, 46, 76, 97, 98, 101, 108, 115, 77, 97, 116, 99, 104, 101, 114, 115]
theorem head_is : Try.prog.initOrder = String.ofList headSigns := by kernel_rfl
theorem head_signs : Try.prog.initOrder.toList = headSigns := by rw [head_is]; exact String.toList_ofList
theorem head_first : (behindMainWord (wordsSigns headSigns)).head? = some "cut".toList := by kernel_rfl
theorem head_words : ∃ r, behindMainWord (wordsSigns headSigns) = "cut".toList :: r := by have h := head_first; cases h2 : behindMainWord (wordsSigns headSigns) with | nil => rw [h2] at h; cases h | cons c r => rw [h2] at h; injection h with h; exact ⟨r, by rw [h]⟩
theorem strip_cut (r : List (List Char)) : stripLifts liftWords ("cut".toList :: r) = ([], "cut".toList :: r) := by kernel_rfl
theorem head_lifts : Try.prog.headLifts = [] := by obtain ⟨r, hr⟩ := head_words; unfold Program.headLifts; rw [head_signs, hr, strip_cut]; kernel_rfl
theorem head_doorFits : Try.prog.doorFits [] = true := by kernel_rfl
theorem head_laysLater : Try.prog.laysLater = false := by kernel_rfl
theorem head_bearsReflect : Try.prog.bearsReflect = false := by kernel_rfl
theorem mayEnter_of {P : Program} {L : List Char} {r : List (List Char)} (h1 : P.initOrder.toList = L) (h2 : behindMainWord (wordsSigns L) = "cut".toList :: r) (h3 : P.doorFits [] = true) (h4 : P.laysLater = false) (h5 : P.bearsReflect = false) : P.mayEnter = true := by unfold Program.mayEnter; rw [h1, h2]; simp only [strip_cut, h3, h4, h5]; kernel_rfl
theorem head_mayEnter : Try.prog.mayEnter = true := by obtain ⟨r, hr⟩ := head_words; exact mayEnter_of head_signs hr head_doorFits head_laysLater head_bearsReflect
theorem head_liftsFinal : Try.prog.liftsFinal = false := by obtain ⟨r, hr⟩ := head_words; unfold Program.liftsFinal; rw [head_signs, head_lifts, hr]; kernel_rfl
theorem make_of {P : Program} {L : List Char} {r : List (List Char)} (h1 : P.initOrder.toList = L) (h2 : behindMainWord (wordsSigns L) = "cut".toList :: r) : P.make = some .cut := by unfold Program.make; rw [h1, h2]; kernel_rfl
theorem head_make : Try.prog.make = some .cut := by obtain ⟨r, hr⟩ := head_words; exact make_of head_signs hr
theorem head_laidOut : laidOutB Try.prog = true := by kernel_rfl
theorem head_mapsRowed : mapsRowed Try.prog = true := by kernel_rfl
theorem head_stops : (Try.prog.stops == []) = true := by kernel_rfl
theorem head_stopKnobs : (Try.prog.stopKnobs == []) = true := by kernel_rfl
theorem head_plainKeys : Try.prog.plainKeys = true := by kernel_rfl
theorem head_stopsHeard : Try.prog.stopsHeard = true := by kernel_rfl
end Go.Proofs.Ytbfiacnmielajaa.P
namespace Go.Proofs.Ytbfiacnmielajaa.P
open Go.RowKit Go.Proofs.YtbfiacnmielajaaW.PrintWords Go.Proofs.YtbfiacnmielajaaW.PrintLast Go.Proofs.YtbfiacnmielajaaW.PrintMore
attribute [local go_sem] max2_int min2_int max_two min_two max_three min_three max_four min_four
set_option linter.unusedVariables false
set_option linter.unusedSimpArgs false
def chk (c : Int) (first : Bool) : Bool := if 48 ≤ c ∧ c ≤ 57 then !first else decide (c = 95) || (decide (97 ≤ c ∧ c ≤ 122) || decide (65 ≤ c ∧ c ≤ 90))
def nameL (s : ByteArray) : Nat → Nat → Bool
  | 0, _ => true
  | d + 1, i => chk (bt s (i : Int)) (decide (i = 0)) && nameL s d (i + 1)
def nameR (s : ByteArray) : Bool := decide (1 ≤ s.size) && (decide (s.size ≤ 40) && nameL s s.size 0)
def escB (c : Int) : ByteArray := if c = 10 then ⟨#[92, 110]⟩ else if c = 34 ∨ c = 92 then (⟨#[92]⟩ : ByteArray) ++ strOfNums [c] else strOfNums [c]
def quotL (s : ByteArray) : Nat → Nat → ByteArray → ByteArray
  | 0, _, acc => acc
  | d + 1, i, acc => quotL s d (i + 1) (acc ++ escB (bt s (i : Int)))
def quotedR (s : ByteArray) : ByteArray := (⟨#[34]⟩ : ByteArray) ++ quotL s s.size 0 ⟨#[]⟩ ++ (⟨#[34]⟩ : ByteArray)
theorem strOf1_size (c : Int) : (strOfNums [c]).size = 1 := by unfold strOfNums; rfl
theorem escB_size (c : Int) : (escB c).size ≤ 2 := by
  unfold escB
  split
  · exact Nat.le_refl 2
  · split
    · rw [ByteArray.size_append, strOf1_size]; exact Nat.le_refl 2
    · rw [strOf1_size]; omega
end Go.Proofs.Ytbfiacnmielajaa.P
namespace Go.Proofs.Ytbfiacnmielajaa.P
open Go.RowKit Go.Proofs.YtbfiacnmielajaaW.PrintWords Go.Proofs.YtbfiacnmielajaaW.PrintLast Go.Proofs.YtbfiacnmielajaaW.PrintMore
attribute [local go_sem] max2_int min2_int max_two min_two max_three min_three max_four min_four
set_option linter.unusedVariables false
set_option linter.unusedSimpArgs false
theorem quotL_size (s : ByteArray) : ∀ (d i : Nat) (acc : ByteArray), (quotL s d i acc).size ≤ acc.size + 2 * d
  | 0, _, acc => by simp [quotL]
  | d + 1, i, acc => by
    have h1 := quotL_size s d (i + 1) (acc ++ escB (bt s (i : Int)))
    have h2 := escB_size (bt s (i : Int))
    rw [ByteArray.size_append] at h1
    simp only [quotL]; omega
theorem quotedR_size (s : ByteArray) : (quotedR s).size ≤ 2 * s.size + 2 := by
  have h := quotL_size s s.size 0 ⟨#[]⟩
  unfold quotedR
  rw [ByteArray.size_append, ByteArray.size_append]
  have e1 : (⟨#[34]⟩ : ByteArray).size = 1 := rfl
  have e2 : (⟨#[]⟩ : ByteArray).size = 0 := rfl
  omega
end Go.Proofs.Ytbfiacnmielajaa.P
namespace Go.Proofs.Ytbfiacnmielajaa.P
open Go.RowKit Go.Proofs.YtbfiacnmielajaaW.PrintWords Go.Proofs.YtbfiacnmielajaaW.PrintLast Go.Proofs.YtbfiacnmielajaaW.PrintMore
set_option linter.unusedVariables false
set_option linter.unusedSimpArgs false
abbrev Lb := S58
abbrev Mt := S42
abbrev Rm := S59
theorem rdR_ (l : List Rm) (i : Nat) (h : i < l.length) : rd_T59 l (i : Int) = l[i] := by unfold rd_T59; simp [List.getD, h]
theorem rdM_ (l : List Mt) (i : Nat) (h : i < l.length) : rd_T42 l (i : Int) = l[i] := by unfold rd_T42; simp [List.getD, h]
theorem rdL_ (l : List Lb) (i : Nat) (h : i < l.length) : rd_T58 l (i : Int) = l[i] := by unfold rd_T58; simp [List.getD, h]
theorem wrS {i : Nat} (h : i < 9000000000000000000) : wrap64 ((i : Int) + 1) = ((i + 1 : Nat) : Int) := by unfold wrap64; omega
def rfL (x : Lb) : Rm := ⟨0, x.f0, x.f1⟩
def rfM (x : Mt) : Rm := ⟨x.f0, x.f1, x.f2⟩
theorem ref_l0 (l : List Lb) (hl : l.length ≤ 3518437208883) : ∀ (d k i : Nat), i + d = l.length → d < k → tidepolelaw30_ref.l0 k ((l.take i).map rfL) l (l.length : Int) (i : Int) = some (l.map rfL) := by
  intro d
  induction d with
  | zero =>
    intro k i hi hk
    obtain ⟨k, rfl⟩ : ∃ m, k = m + 1 := ⟨k - 1, by omega⟩
    simp only [tidepolelaw30_ref.l0]
    rw [if_neg (by omega), List.take_of_length_le (by omega)]
  | succ d ih =>
    intro k i hi hk
    obtain ⟨k, rfl⟩ : ∃ m, k = m + 1 := ⟨k - 1, by omega⟩
    have hlt : i < l.length := by omega
    simp only [tidepolelaw30_ref.l0]
    rw [if_pos (by omega), if_pos (by omega), if_pos (by omega), if_pos (by simp; omega), wrS (by omega), rdL_ l i hlt, ← ih k (i + 1) (by omega) (by omega), List.take_succ_eq_append_getElem hlt, List.map_append]
    rfl
theorem ref_eq (l : List Lb) (hl : l.length ≤ 3518437208883) (k : Nat) (hk : l.length < k) : tidepolelaw30_ref.f k l = some (l.map rfL) := ref_l0 l hl l.length k 0 (by omega) hk
def smB (x : Rm) : Bool := decide (x.f1.size ≤ 100) && decide (x.f2.size ≤ 300)
def smallB (l : List Rm) : Bool := l.all smB && decide (l.length ≤ 30)
theorem small_l0 (l : List Rm) (hl : l.length ≤ 3518437208883) : ∀ (d k i : Nat), i + d = l.length → d < k → tidepolelaw30_small.l0 k l l (l.length : Int) (i : Int) = some ((l.drop i).all smB && decide (l.length ≤ 30)) := by
  intro d
  induction d with
  | zero =>
    intro k i hi hk
    obtain ⟨k, rfl⟩ : ∃ m, k = m + 1 := ⟨k - 1, by omega⟩
    simp only [tidepolelaw30_small.l0]
    rw [if_neg (by omega), List.drop_of_length_le (by omega)]
    simp only [List.all_nil, Bool.true_and]
    congr 1
    exact decide_eq_decide.2 (by omega)
  | succ d ih =>
    intro k i hi hk
    obtain ⟨k, rfl⟩ : ∃ m, k = m + 1 := ⟨k - 1, by omega⟩
    have hlt : i < l.length := by omega
    simp only [tidepolelaw30_small.l0]
    rw [if_pos (by omega), if_pos (by omega), if_pos (by omega), rdR_ l i hlt, wrS (by omega), ih k (i + 1) (by omega) (by omega), List.drop_eq_getElem_cons hlt, List.all_cons]
    generalize l[i] = x
    unfold smB
    by_cases h1 : x.f1.size ≤ 100
    · rw [if_neg (by omega), decide_eq_true h1]
      by_cases h2 : x.f2.size ≤ 300
      · rw [if_neg (by omega), decide_eq_true h2]; rfl
      · rw [if_pos (by omega), decide_eq_false h2]; rfl
    · rw [if_pos (by omega), decide_eq_false h1]; rfl
theorem small_eq (l : List Rm) (hl : l.length ≤ 3518437208883) (k : Nat) (hk : l.length < k) : tidepolelaw30_small.f k l = some (smallB l) := by
  unfold tidepolelaw30_small.f smallB
  rw [show (0 : Int) = ((0 : Nat) : Int) from rfl, small_l0 l hl l.length k 0 (by omega) hk]; rfl
def chkL (lab : Int) : Option ByteArray → List Rm → Int
  | _, [] => 0
  | p, x :: l => if lab = 0 ∧ (x.f0 < 0 ∨ x.f0 > 3) then 11 else if nameR x.f1 = true then (if x.f2.size ≤ 200 then (if lab = 1 ∧ (∃ q, p = some q ∧ Op.bytesLess q.toList x.f1.toList = false) then 11 else chkL lab (some x.f1) l) else 17) else 10
def checkR (lab : Int) (l : List Rm) : Int := if l.length > 16 then 12 else chkL lab none l
def pv (l : List Rm) (i : Nat) : Option ByteArray := if i = 0 then none else some (rd_T59 l ((i : Int) - 1)).f1
theorem pv_succ (l : List Rm) (i : Nat) (h : i < l.length) : pv l (i + 1) = some l[i].f1 := by
  unfold pv
  rw [if_neg (by omega), show ((i + 1 : Nat) : Int) - 1 = (i : Int) by omega, rdR_ l i h]
theorem wrP {i : Nat} (h : i < 9000000000000000000) (h0 : 0 < i) : wrap64 ((i : Int) - 1) = (i : Int) - 1 := by unfold wrap64; omega
theorem letter_eq (c : Int) (b : Bool) (k : Nat) (hk : 2 < k) : labels_letter.f k c b = some (chk c b) := by
  obtain ⟨k, rfl⟩ : ∃ m, k = m + 2 := ⟨k - 2, by omega⟩
  unfold labels_letter.f chk
  have e95 : (c == 95) = decide (c = 95) := rfl
  by_cases h1 : 48 ≤ c <;> by_cases h2 : c ≤ 57 <;> by_cases h3 : 97 ≤ c <;> by_cases h4 : c ≤ 122 <;> by_cases h5 : 65 ≤ c <;> by_cases h6 : c ≤ 90 <;>
    first
    | (exfalso; omega)
    | simp [labels_letter.j0, labels_letter.j1, h1, h2, h3, h4, h5, h6, e95]
theorem named_l0 (s : ByteArray) (hs : s.size ≤ 1000000) : ∀ (d k i : Nat), i + d = s.size → d + 3 < k → labels_named.l0 k s (s.size : Int) (i : Int) = some (nameL s d i && (decide (1 ≤ s.size) && decide (s.size ≤ 40))) := by
  intro d
  induction d with
  | zero =>
    intro k i hi hk
    obtain ⟨k, rfl⟩ : ∃ m, k = m + 1 := ⟨k - 1, by omega⟩
    simp only [labels_named.l0, nameL, Bool.true_and]
    rw [if_neg (by omega)]
    by_cases h : 1 ≤ s.size
    · rw [if_pos (by omega), decide_eq_true h, Bool.true_and]
      congr 1
      exact decide_eq_decide.2 (by omega)
    · rw [if_neg (by omega), decide_eq_false h]; rfl
  | succ d ih =>
    intro k i hi hk
    obtain ⟨k, rfl⟩ : ∃ m, k = m + 1 := ⟨k - 1, by omega⟩
    simp only [labels_named.l0, nameL]
    have hz : ((i : Int) == 0) = decide (i = 0) := by
      rw [show ((i : Int) == 0) = decide ((i : Int) = 0) from rfl]; exact decide_eq_decide.2 (by omega)
    rw [if_pos (by omega), if_pos (by omega), if_pos (by omega), letter_eq _ _ k (by omega), wrS (by omega), ih k (i + 1) (by omega) (by omega), hz]
    simp only [Option.bind_some]
    by_cases h : chk (bt s (i : Int)) (decide (i = 0)) = true
    · rw [if_pos h, h, Bool.true_and]
    · rw [if_neg h, Bool.eq_false_iff.2 h, Bool.false_and, Bool.false_and]
theorem named_eq (s : ByteArray) (hs : s.size ≤ 1000000) (k : Nat) (hk : s.size + 3 < k) : labels_named.f k s = some (nameR s) := by
  unfold labels_named.f nameR
  rw [show (0 : Int) = ((0 : Nat) : Int) from rfl, named_l0 s hs s.size k 0 (by omega) hk]
  congr 1
  rw [Bool.and_comm, Bool.and_assoc]
theorem part_eq (n v : ByteArray) (hs : n.size ≤ 1000000) (k : Nat) (hk : n.size + 3 < k) : labels_part.f k n v = some (if nameR n = true then (if v.size ≤ 200 then 0 else 17) else 10) := by
  unfold labels_part.f
  rw [named_eq n hs k hk]
  simp only [Option.bind_some]
  by_cases h : nameR n = true
  · rw [if_pos h, if_pos h]
    by_cases h2 : v.size ≤ 200
    · rw [if_neg (by omega), if_pos h2]
    · rw [if_pos (by omega), if_neg h2]
  · rw [if_neg h, if_neg h]
theorem checkM_l0 (l : List Mt) (hl : l.length ≤ 16) (hn : ∀ x ∈ l, x.f1.size ≤ 2500) : ∀ (d k i : Nat), i + d = l.length → 2 * d + 2600 < k → ∀ p, labels_CheckMatchers.l0 k l (l.length : Int) (i : Int) = some (chkL 0 p ((l.drop i).map rfM)) := by
  intro d
  induction d with
  | zero =>
    intro k i hi hk p
    obtain ⟨k, rfl⟩ : ∃ m, k = m + 1 := ⟨k - 1, by omega⟩
    simp only [labels_CheckMatchers.l0]
    rw [if_neg (by omega), List.drop_of_length_le (by omega)]
    rfl
  | succ d ih =>
    intro k i hi hk p
    obtain ⟨k, rfl⟩ : ∃ m, k = m + 2 := ⟨k - 2, by omega⟩
    have hlt : i < l.length := by omega
    have hx := hn l[i] (List.getElem_mem hlt)
    have hrec := ih k (i + 1) (by omega) (by omega) (some l[i].f1)
    simp only [labels_CheckMatchers.l0, labels_CheckMatchers.j1]
    rw [if_pos (by omega), if_pos (by omega), if_pos (by omega), rdM_ l i hlt, List.drop_eq_getElem_cons hlt, List.map_cons, wrS (by omega), hrec, part_eq _ _ (by omega) k (by omega)]
    generalize l[i] = x
    have h3' : x.f0 > 3 ↔ 3 < x.f0 := Iff.rfl
    by_cases h0 : x.f0 < 0
    · simp [chkL, rfM, h0]
    · by_cases h3 : 3 < x.f0
      · simp [chkL, rfM, h0, h3]
      · by_cases hn : nameR x.f1 = true
        · by_cases hv : x.f2.size ≤ 200
          · simp [chkL, rfM, h0, h3, hn, hv]
          · simp [chkL, rfM, h0, h3, hn, hv]
        · simp [chkL, rfM, h0, h3, hn]
theorem checkM_eq (l : List Mt) (hn : l.length ≤ 16 → ∀ x ∈ l, x.f1.size ≤ 2500) (k : Nat) (hk : 2700 < k) : labels_CheckMatchers.f k l = some (checkR 0 (l.map rfM)) := by
  unfold labels_CheckMatchers.f checkR
  by_cases h : l.length > 16
  · rw [if_pos (by omega), if_pos (by simpa using h)]
  · rw [if_neg (by omega), if_neg (by simpa using h), show (0 : Int) = ((0 : Nat) : Int) from rfl, checkM_l0 l (by omega) (hn (by omega)) l.length k 0 (by omega) (by omega) none]
    rfl
theorem checkL_l0 (l : List Lb) (hl : l.length ≤ 16) (hn : ∀ x ∈ l, x.f0.size ≤ 2500) : ∀ (d k i : Nat), i + d = l.length → d + 2600 < k → labels_Check.l0 k l l (l.length : Int) (i : Int) = some (chkL 1 (pv (l.map rfL) i) ((l.drop i).map rfL)) := by
  intro d
  induction d with
  | zero =>
    intro k i hi hk
    obtain ⟨k, rfl⟩ : ∃ m, k = m + 1 := ⟨k - 1, by omega⟩
    simp only [labels_Check.l0]
    rw [if_neg (by omega), List.drop_of_length_le (by omega)]
    rfl
  | succ d ih =>
    intro k i hi hk
    obtain ⟨k, rfl⟩ : ∃ m, k = m + 1 := ⟨k - 1, by omega⟩
    have hlt : i < l.length := by omega
    have hx := hn l[i] (List.getElem_mem hlt)
    have hrec := ih k (i + 1) (by omega) (by omega)
    rw [pv_succ (l.map rfL) i (by simpa using hlt), List.getElem_map] at hrec
    simp only [labels_Check.l0]
    rw [if_pos (by omega), if_pos (by omega), if_pos (by omega), rdL_ l i hlt, List.drop_eq_getElem_cons hlt, List.map_cons, wrS (by omega), hrec, part_eq _ _ (by omega) k (by omega)]
    simp only [chkL, Option.bind_some]
    rw [if_neg (show ¬ ((1 : Int) = 0 ∧ ((rfL l[i]).f0 < 0 ∨ (rfL l[i]).f0 > 3)) from fun h => absurd h.1 (by decide))]
    have e1 : (rfL l[i]).f1 = l[i].f0 := rfl
    have e2 : (rfL l[i]).f2 = l[i].f1 := rfl
    rw [e1, e2]
    by_cases hn : nameR l[i].f0 = true
    · rw [if_pos hn, if_pos hn]
      by_cases hv : l[i].f1.size ≤ 200
      · rw [if_pos hv, if_pos hv, if_pos rfl]
        by_cases h0 : i = 0
        · subst h0
          rw [if_neg (by decide), if_neg (by rintro ⟨_, q, hq, _⟩; simp [pv] at hq)]
        · rw [if_pos (by omega), wrP (by omega) (by omega), if_pos (by omega), if_pos (by omega)]
          have hi1 : ((i : Int) - 1) = ((i - 1 : Nat) : Int) := by omega
          have hp : pv (l.map rfL) i = some (l[i - 1]'(by omega)).f0 := by
            unfold pv; rw [if_neg h0, hi1, rdR_ _ _ (by simp; omega), List.getElem_map]; rfl
          rw [hi1, rdL_ l (i - 1) (by omega)]
          by_cases hb2 : Op.bytesLess (l[i - 1]'(by omega)).f0.toList l[i].f0.toList = true
          · rw [if_pos hb2, if_neg (by rintro ⟨_, q, hq, hf⟩; rw [hp] at hq; cases hq; rw [hb2] at hf; cases hf)]
          · rw [if_neg hb2, if_pos ⟨trivial, _, hp, Bool.eq_false_iff.2 hb2⟩]
      · rw [if_neg hv, if_neg hv, if_neg (by decide)]
    · rw [if_neg hn, if_neg hn, if_neg (by decide)]
theorem checkL_eq (l : List Lb) (hn : l.length ≤ 16 → ∀ x ∈ l, x.f0.size ≤ 2500) (k : Nat) (hk : 2700 < k) : labels_Check.f k l = some (checkR 1 (l.map rfL)) := by
  unfold labels_Check.f checkR
  by_cases h : l.length > 16
  · rw [if_pos (by omega), if_pos (by simpa using h)]
  · rw [if_neg (by omega), if_neg (by simpa using h), show (0 : Int) = ((0 : Nat) : Int) from rfl, checkL_l0 l (by omega) (hn (by omega)) l.length k 0 (by omega) (by omega)]
    rfl
end Go.Proofs.Ytbfiacnmielajaa.P
namespace Go.Proofs.Ytbfiacnmielajaa.P
open Go.RowKit Go.Proofs.YtbfiacnmielajaaW.PrintWords Go.Proofs.YtbfiacnmielajaaW.PrintLast Go.Proofs.YtbfiacnmielajaaW.PrintMore
set_option linter.unusedVariables false
set_option linter.unusedSimpArgs false
theorem strOf_append (a b : List Int) : strOfNums (a ++ b) = strOfNums a ++ strOfNums b := by
  unfold strOfNums
  apply ByteArray.ext
  simp [ByteArray.data_append]
theorem quotL_acc (s : ByteArray) : ∀ (d i : Nat) (a b : ByteArray), quotL s d i (a ++ b) = a ++ quotL s d i b
  | 0, _, _, _ => rfl
  | d + 1, i, a, b => by simp only [quotL]; rw [ByteArray.append_assoc, quotL_acc s d (i + 1) a]
theorem wrap_s {x : Int} (h0 : 0 ≤ x) (h1 : x < 1000000000) : wrap64 (x + 1) = x + 1 := by unfold wrap64; omega
theorem quoted_l0 (s : ByteArray) (hs : s.size ≤ 1000000) : ∀ (d k i : Nat) (x3 : List Int), i + d = s.size → d < k → x3.length ≤ 2 * i + 1 →
    labels_quoted.l0 k s x3 (s.size : Int) (i : Int) = some (quotL s d i (strOfNums x3) ++ (⟨#[34]⟩ : ByteArray)) := by
  intro d
  induction d with
  | zero =>
    intro k i x3 hi hk hl
    obtain ⟨k, rfl⟩ : ∃ m, k = m + 1 := ⟨k - 1, by omega⟩
    simp only [labels_quoted.l0, quotL]
    rw [if_neg (by omega), if_pos (by omega), strOf_append]
    rfl
  | succ d ih =>
    intro k i x3 hi hk hl
    obtain ⟨k, rfl⟩ : ∃ m, k = m + 1 := ⟨k - 1, by omega⟩
    have hw : wrap64 ((i : Int) + 1) = ((i + 1 : Nat) : Int) := by rw [wrap_s (by omega) (by omega)]; omega
    have e92 : strOfNums [92] = (⟨#[92]⟩ : ByteArray) := rfl
    have e10 : strOfNums [92, 110] = (⟨#[92, 110]⟩ : ByteArray) := rfl
    simp only [labels_quoted.l0, quotL, Option.bind_some]
    rw [if_pos (by omega), if_pos (by omega), if_pos (by omega), hw]
    generalize bt s (i : Int) = c
    unfold escB
    by_cases c10 : c = 10
    · rw [if_pos c10, if_pos c10, if_pos (by simp; omega), ih k (i + 1) _ (by omega) (by omega) (by simp; omega), strOf_append, e10]
    · rw [if_neg c10, if_neg c10]
      by_cases c34 : c = 34
      · rw [if_pos c34, if_pos (show c = 34 ∨ c = 92 from .inl c34), if_pos (by omega), if_pos (by simp; omega), ih k (i + 1) _ (by omega) (by omega) (by simp; omega), strOf_append, strOf_append, e92, ByteArray.append_assoc]
      · rw [if_neg c34]
        by_cases c92 : c = 92
        · rw [if_pos c92, if_pos (show c = 34 ∨ c = 92 from .inr c92), if_pos (by omega), if_pos (by simp; omega), ih k (i + 1) _ (by omega) (by omega) (by simp; omega), strOf_append, strOf_append, e92, ByteArray.append_assoc]
        · rw [if_neg c92, if_neg (show ¬ (c = 34 ∨ c = 92) from fun h => h.elim c34 c92), if_pos (by omega), ih k (i + 1) _ (by omega) (by omega) (by simp; omega), strOf_append]
theorem quoted_eq (s : ByteArray) (hs : s.size ≤ 1000000) (k : Nat) (hk : s.size < k) : labels_quoted.f k s = some (quotedR s) := by
  unfold labels_quoted.f quotedR
  rw [show (0 : Int) = ((0 : Nat) : Int) from rfl, quoted_l0 s hs s.size k 0 _ (by omega) hk (by simp)]
  have e34 : strOfNums [34] = (⟨#[34]⟩ : ByteArray) ++ (⟨#[]⟩ : ByteArray) := rfl
  rw [e34, quotL_acc]
end Go.Proofs.Ytbfiacnmielajaa.P
namespace Go.Proofs.Ytbfiacnmielajaa.P
open Go.RowKit Go.Proofs.YtbfiacnmielajaaW.PrintWords Go.Proofs.YtbfiacnmielajaaW.PrintLast Go.Proofs.YtbfiacnmielajaaW.PrintMore
attribute [local go_sem] max2_int min2_int max_two min_two max_three min_three max_four min_four
set_option linter.unusedVariables false
set_option linter.unusedSimpArgs false
def pieceM (x : S42) : ByteArray := x.f1 ++ sgn x.f0.toNat ++ quotedR x.f2
end Go.Proofs.Ytbfiacnmielajaa.P
namespace Go.Proofs.Ytbfiacnmielajaa.P
open Go.RowKit Go.Proofs.YtbfiacnmielajaaW.PrintWords Go.Proofs.YtbfiacnmielajaaW.PrintLast Go.Proofs.YtbfiacnmielajaaW.PrintMore
set_option linter.unusedVariables false
set_option linter.unusedSimpArgs false
def mk (l : List UInt8) : ByteArray := ⟨l.toArray⟩
theorem mk_data (s : ByteArray) : mk s.data.toList = s := ByteArray.ext (by simp [mk])
theorem mk_size (l : List UInt8) : (mk l).size = l.length := by simp [mk, ByteArray.size]
theorem mk_toList (l : List UInt8) : (mk l).toList = l := by rw [Go.ByteArray.toList_eq]; simp [mk]
theorem mk_dtl (l : List UInt8) : (mk l).data.toList = l := by simp [mk]
theorem mk_append (a b : List UInt8) : mk a ++ mk b = mk (a ++ b) := ByteArray.ext (by simp [mk, ByteArray.data_append])
theorem mk_extract (l : List UInt8) (a b : Nat) : (mk l).extract a b = mk ((l.drop a).take (b - a)) := by
  apply ByteArray.ext
  simp [mk, ByteArray.data_extract, List.extract_eq_take_drop]
theorem mk_from (l : List UInt8) (a : Nat) : (mk l).extract a (mk l).size = mk (l.drop a) := by
  rw [mk_extract, mk_size, List.take_of_length_le (by simp)]
theorem bt_mk (l : List UInt8) (i : Nat) (h : i < l.length) : bt (mk l) (i : Int) = ((l[i]).toNat : Int) := by
  have hs : (i : Int).toNat < (mk l).size := by rw [mk_size]; simpa using h
  rw [← bt_at (mk l) (i : Int) hs]
  rfl
theorem bt_mk0 (c : UInt8) (l : List UInt8) : bt (mk (c :: l)) 0 = (c.toNat : Int) := bt_mk (c :: l) 0 (by simp)
theorem pre_take (p l : List UInt8) : (l.take p.length == p) = p.isPrefixOf l := by
  rw [Bool.eq_iff_iff, beq_iff_eq, List.isPrefixOf_iff_prefix, List.prefix_iff_eq_take]
  exact ⟨fun h => h.symm, fun h => h.symm⟩
theorem hp_mk (l p : List UInt8) : strings_HasPrefix.f (mk l) (mk p) = some (p.isPrefixOf l) := by
  unfold strings_HasPrefix.f stringslite_HasPrefix.f
  rw [mk_size, mk_size]
  by_cases h : (l.length : Int) ≥ (p.length : Int)
  · rw [if_pos h, if_pos (by omega), if_pos (by omega), mk_extract, mk_toList, mk_toList]
    simp only [Option.bind_some, Int.toNat_natCast, Nat.sub_zero, List.drop_zero]
    rw [pre_take]
  · rw [if_neg h]
    simp only [Option.bind_some]
    congr 1
    cases hp : p.isPrefixOf l with
    | false => rfl
    | true => have := (List.isPrefixOf_iff_prefix.1 hp).length_le; omega
theorem take_mk (l p : List UInt8) (b : Bool) : labels_reader_take.f (mk l) b (mk p) = some (if p.isPrefixOf l = true then (mk (l.drop p.length), b) else (mk l, true)) := by
  have h0 : stringslite_HasPrefix.f (mk l) (mk p) = some (p.isPrefixOf l) := by
    have := hp_mk l p
    unfold strings_HasPrefix.f at this
    rw [Option.bind_eq_some_iff] at this
    obtain ⟨q, h, e⟩ := this
    cases e; exact h
  unfold labels_reader_take.f strings_CutPrefix.f stringslite_CutPrefix.f
  rw [h0]
  simp only [Option.bind_some]
  cases hp : p.isPrefixOf l with
  | false => cases b <;> simp
  | true =>
    have hl := (List.isPrefixOf_iff_prefix.1 hp).length_le
    rw [if_pos rfl, mk_size, if_pos (by omega), if_pos (by rw [mk_size]; omega), Int.toNat_natCast, mk_from]
    cases b <;> simp
theorem letter_eq1 (c : Int) (b : Bool) (k : Nat) (hk : 1 < k) : labels_letter.f k c b = some (chk c b) := by
  obtain ⟨k, rfl⟩ : ∃ m, k = m + 2 := ⟨k - 2, by omega⟩
  unfold labels_letter.f chk
  have e95 : (c == 95) = decide (c = 95) := rfl
  by_cases h1 : 48 ≤ c <;> by_cases h2 : c ≤ 57 <;> by_cases h3 : 97 ≤ c <;> by_cases h4 : c ≤ 122 <;> by_cases h5 : 65 ≤ c <;> by_cases h6 : c ≤ 90 <;>
    first
    | (exfalso; omega)
    | simp [labels_letter.j0, labels_letter.j1, h1, h2, h3, h4, h5, h6, e95]
def okN (c : UInt8) : Bool := chk (c.toNat : Int) false
theorem name_l0 (l : List UInt8) (b : Bool) (hl : l.length ≤ 1000000000) : ∀ (d k i : Nat), i + d = l.length → d + 1 < k → (∀ c ∈ l.take i, okN c = true) →
    labels_reader_name.l0 k (i : Int) (mk l) b = some (mk (l.takeWhile okN), mk (l.dropWhile okN), b) := by
  have fin : ∀ i : Nat, i ≤ l.length → (∀ c ∈ l.take i, okN c = true) → (∀ h : i < l.length, okN l[i] = false) → l.takeWhile okN = l.take i ∧ l.dropWhile okN = l.drop i := by
    intro i hi h1 h2
    have e1 : l.takeWhile okN = l.take i := by
      conv => lhs; rw [← List.take_append_drop i l]
      rw [List.takeWhile_append_of_pos h1]
      cases hd : l.drop i with
      | nil => simp
      | cons a r =>
        have hlt : i < l.length := by
          rcases Nat.lt_or_ge i l.length with h | h
          · exact h
          · rw [List.drop_of_length_le h] at hd; cases hd
        have ha : l[i] = a := by rw [List.drop_eq_getElem_cons hlt] at hd; injection hd
        rw [List.takeWhile_cons, ← ha, h2 hlt]; simp
    refine ⟨e1, ?_⟩
    have := List.takeWhile_append_dropWhile (p := okN) (l := l)
    rw [e1] at this
    conv at this => rhs; rw [← List.take_append_drop i l]
    exact List.append_cancel_left this
  intro d
  induction d with
  | zero =>
    intro k i hi hk ho
    obtain ⟨k, rfl⟩ : ∃ q, k = q + 1 := ⟨k - 1, by omega⟩
    obtain ⟨e1, e2⟩ := fin i (by omega) ho (fun h => by omega)
    simp only [labels_reader_name.l0]
    rw [if_neg (by rw [mk_size]; omega), if_pos (by omega), if_pos (by rw [mk_size]; omega), Int.toNat_natCast, mk_from, mk_extract, e1, e2]
    simp
  | succ d ih =>
    intro k i hi hk ho
    obtain ⟨k, rfl⟩ : ∃ q, k = q + 1 := ⟨k - 1, by omega⟩
    have hlt : i < l.length := by omega
    simp only [labels_reader_name.l0]
    rw [if_pos (by rw [mk_size]; omega), if_pos (by omega), bt_mk l i hlt, letter_eq1 _ _ k (by omega)]
    simp only [Option.bind_some]
    cases hc : okN l[i] with
    | true =>
      rw [if_pos (show chk ((l[i]).toNat : Int) false = true from hc), wrS (by omega), ih k (i + 1) (by omega) (by omega) (fun c hc' => by
        rw [List.take_succ_eq_append_getElem hlt, List.mem_append] at hc'
        rcases hc' with h | h
        · exact ho c h
        · rw [List.mem_singleton] at h; rw [h]; exact hc)]
    | false =>
      obtain ⟨e1, e2⟩ := fin i (by omega) ho (fun _ => hc)
      rw [if_neg (by unfold okN at hc; rw [hc]; decide), if_pos (by rw [mk_size]; omega), Int.toNat_natCast, mk_from, mk_extract, e1, e2]
      simp
theorem name_mk (l : List UInt8) (b : Bool) (hl : l.length ≤ 1000000000) : labels_reader_name.f ((mk l).size + 2) (mk l) b = some (mk (l.takeWhile okN), mk (l.dropWhile okN), b) :=
  name_l0 l b hl l.length _ 0 (by omega) (by rw [mk_size]; omega) (fun c h => by simp at h)
end Go.Proofs.Ytbfiacnmielajaa.P
namespace Go.Proofs.Ytbfiacnmielajaa.P
open Go.RowKit Go.Proofs.YtbfiacnmielajaaW.PrintWords Go.Proofs.YtbfiacnmielajaaW.PrintLast Go.Proofs.YtbfiacnmielajaaW.PrintMore
set_option linter.unusedVariables false
set_option linter.unusedSimpArgs false
def esc (c : UInt8) : List UInt8 := if c = 10 then [92, 110] else if c = 34 ∨ c = 92 then [92, c] else [c]
theorem nums1 (c : UInt8) : strOfNums [(c.toNat : Int)] = mk [c] := by
  apply ByteArray.ext
  simp [strOfNums, mk]
theorem nums_mk (l : List UInt8) : strOfNums (l.map fun c => (c.toNat : Int)) = mk l := by
  apply ByteArray.ext
  show ((l.map fun c => (c.toNat : Int)).map fun n => UInt8.ofNat n.toNat).toArray = l.toArray
  rw [List.map_map]
  congr 1
  conv => rhs; rw [← List.map_id l]
  exact List.map_congr_left (fun c _ => by simp)
theorem u8i {c d : UInt8} : ((c.toNat : Int) = (d.toNat : Int)) ↔ c = d := ⟨fun h => UInt8.toNat_inj.1 (by omega), fun h => by rw [h]⟩
theorem escB_esc (c : UInt8) : escB (c.toNat : Int) = mk (esc c) := by
  have h10 : ((c.toNat : Int) = 10) ↔ c = 10 := u8i (d := 10)
  have h34 : ((c.toNat : Int) = 34) ↔ c = 34 := u8i (d := 34)
  have h92 : ((c.toNat : Int) = 92) ↔ c = 92 := u8i (d := 92)
  unfold escB esc
  simp only [h10, h34, h92]
  by_cases a : c = 10
  · rw [if_pos a, if_pos a]; rfl
  · rw [if_neg a, if_neg a]
    by_cases b : c = 34 ∨ c = 92
    · rw [if_pos b, if_pos b, nums1]; exact mk_append [92] [c]
    · rw [if_neg b, if_neg b, nums1]
theorem quotL_mk (l : List UInt8) : ∀ (d i : Nat) (a : List UInt8), i + d = l.length → quotL (mk l) d i (mk a) = mk (a ++ (l.drop i).flatMap esc) := by
  intro d
  induction d with
  | zero => intro i a hi; simp only [quotL]; rw [List.drop_of_length_le (by omega)]; simp
  | succ d ih =>
    intro i a hi
    have hlt : i < l.length := by omega
    simp only [quotL]
    rw [bt_mk l i hlt, escB_esc, mk_append, ih (i + 1) _ (by omega), List.drop_eq_getElem_cons hlt, List.flatMap_cons, List.append_assoc]
theorem quoted_mk (l : List UInt8) : quotedR (mk l) = mk (34 :: (l.flatMap esc ++ [34])) := by
  unfold quotedR
  rw [mk_size]
  have := quotL_mk l l.length 0 [] (by omega)
  rw [show (⟨#[]⟩ : ByteArray) = mk [] from rfl, this]
  exact (congrArg (· ++ mk [34]) (mk_append [34] _)).trans (mk_append _ [34])
theorem cut1_mk (c : UInt8) (l : List UInt8) : cut1 (mk (c :: l)) = mk l := by unfold cut1; rw [mk_from]; rfl
theorem hp1_mk (c : UInt8) (l : List UInt8) (d : UInt8) : hp1 (mk (c :: l)) (d.toNat : Int) = decide (c = d) := by
  unfold hp1
  rw [bt_mk0, mk_size, decide_eq_true (by simp), Bool.true_and]
  exact decide_eq_decide.2 u8i
def nums (l : List UInt8) : List Int := l.map fun c => (c.toNat : Int)
theorem valL_step (d : Nat) (c : UInt8) (l : List UInt8) (bad : Bool) (o : List Int) : valL (d + 1) (mk (c :: l)) bad o =
    if c = 34 then some (o, mk (c :: l), bad) else
    if c = 10 then valL d (mk l) true (o ++ [10]) else
    if c = 92 then
      (if hp1 (mk l) 110 = true then valL d (cut1 (mk l)) bad (o ++ [10]) else
       if hp1 (mk l) 34 = true then valL d (cut1 (mk l)) bad (o ++ [34]) else
       if hp1 (mk l) 92 = true then valL d (cut1 (mk l)) bad (o ++ [92]) else valL d (mk l) true (o ++ [92]))
    else valL d (mk l) bad (o ++ [(c.toNat : Int)]) := by
  have h10 : ((c.toNat : Int) = 10) ↔ c = 10 := u8i (d := 10)
  have h34 : ((c.toNat : Int) = 34) ↔ c = 34 := u8i (d := 34)
  have h92 : ((c.toNat : Int) = 92) ↔ c = 92 := u8i (d := 92)
  simp only [valL]
  rw [if_neg (by rw [mk_size]; simp), bt_mk0, cut1_mk]
  simp only [h10, h34, h92]
theorem valL_fwd : ∀ (v rest : List UInt8) (d : Nat) (bad : Bool) (o : List Int), v.length < d → valL d (mk (v.flatMap esc ++ 34 :: rest)) bad o = some (o ++ nums v, mk (34 :: rest), bad) := by
  intro v
  induction v with
  | nil =>
    intro rest d bad o hd
    obtain ⟨d, rfl⟩ : ∃ q, d = q + 1 := ⟨d - 1, by simp at hd; omega⟩
    rw [show ([] : List UInt8).flatMap esc ++ 34 :: rest = 34 :: rest from rfl, valL_step, if_pos rfl]
    simp [nums]
  | cons c v ih =>
    intro rest d bad o hd
    obtain ⟨d, rfl⟩ : ∃ q, d = q + 1 := ⟨d - 1, by simp at hd; omega⟩
    have hd' : v.length < d := by simp at hd; omega
    rw [List.flatMap_cons, List.append_assoc]
    have hn : nums (c :: v) = (c.toNat : Int) :: nums v := rfl
    rw [hn, show esc c = if c = 10 then [92, 110] else if c = 34 ∨ c = 92 then [92, c] else [c] from rfl]
    have n34 : hp1 (mk (110 :: (v.flatMap esc ++ 34 :: rest))) 110 = true := by rw [show (110 : Int) = ((110 : UInt8).toNat : Int) from rfl, hp1_mk]; rfl
    by_cases h : c = 10
    · subst h
      rw [if_pos rfl, show ([92, 110] : List UInt8) ++ (v.flatMap esc ++ 34 :: rest) = 92 :: 110 :: (v.flatMap esc ++ 34 :: rest) from rfl, valL_step, if_neg (by decide), if_neg (by decide), if_pos rfl, if_pos n34, cut1_mk, ih rest d bad _ hd']
      simp
    · rw [if_neg h]
      by_cases h2 : c = 34 ∨ c = 92
      · rw [if_pos h2, show ([92, c] : List UInt8) ++ (v.flatMap esc ++ 34 :: rest) = 92 :: c :: (v.flatMap esc ++ 34 :: rest) from rfl, valL_step, if_neg (by decide), if_neg (by decide), if_pos rfl]
        have e1 : hp1 (mk (c :: (v.flatMap esc ++ 34 :: rest))) 110 = decide (c = 110) := hp1_mk c _ 110
        have e2 : hp1 (mk (c :: (v.flatMap esc ++ 34 :: rest))) 34 = decide (c = 34) := hp1_mk c _ 34
        have e3 : hp1 (mk (c :: (v.flatMap esc ++ 34 :: rest))) 92 = decide (c = 92) := hp1_mk c _ 92
        rw [e1, e2, e3, cut1_mk]
        rcases h2 with h2 | h2
        · subst h2
          rw [if_neg (by decide), if_pos (by decide), ih rest d bad _ hd']; simp
        · subst h2
          rw [if_neg (by decide), if_neg (by decide), if_pos (by decide), ih rest d bad _ hd']; simp
      · rw [if_neg h2, show ([c] : List UInt8) ++ (v.flatMap esc ++ 34 :: rest) = c :: (v.flatMap esc ++ 34 :: rest) from rfl, valL_step, if_neg (fun e => h2 (.inl e)), if_neg h, if_neg (fun e => h2 (.inr e)), ih rest d bad _ hd']
        simp
theorem take1_mk (c d : UInt8) (l : List UInt8) (b : Bool) : labels_reader_take.f (mk (c :: l)) b (⟨#[d]⟩ : ByteArray) = some (if c = d then (mk l, b) else (mk (c :: l), true)) := by
  have := take_mk (c :: l) [d] b
  rw [show mk [d] = (⟨#[d]⟩ : ByteArray) from rfl] at this
  rw [this]
  congr 1
  have e : ([d].isPrefixOf (c :: l) = true) ↔ c = d := by simp [List.isPrefixOf]; exact eq_comm
  simp only [e]; rfl
theorem value_fwd (v rest : List UInt8) (bad : Bool) (h : (34 :: (v.flatMap esc ++ 34 :: rest)).length ≤ 1000000) : labels_reader_value.f (mk (34 :: (v.flatMap esc ++ 34 :: rest))) bad = some (mk v, mk rest, bad) := by
  unfold labels_reader_value.f
  have hv : v.length ≤ (v.flatMap esc).length := by
    clear h
    induction v with
    | nil => simp
    | cons c v ih =>
      rw [List.flatMap_cons, List.length_append, List.length_cons]
      have : 1 ≤ (esc c).length := by unfold esc; split; simp; split <;> simp
      omega
  rw [if_pos (by rw [mk_size]; exact h), take1_mk, if_pos rfl]
  simp only [Option.bind_some]
  rw [valL_fwd v rest _ bad [] (by simp only [mk_size, List.length_append, List.length_cons]; omega)]
  simp only [Option.bind_some]
  rw [take1_mk, if_pos rfl]
  simp only [Option.bind_some, List.nil_append]
  rw [show strOfNums (nums v) = mk v from nums_mk v]
def sgL : Nat → List UInt8
  | 0 => [61]
  | 1 => [33, 61]
  | 2 => [94, 61]
  | _ => [42, 61]
theorem sgn_mk (i : Nat) : sgn i = mk (sgL i) := by
  match i with
  | 0 => rfl
  | 1 => rfl
  | 2 => rfl
  | n + 3 => rfl
theorem sign_fwd (i : Nat) (hi : i ≤ 3) (rest : List UInt8) (bad : Bool) : labels_reader_sign.f (mk (sgL i ++ rest)) bad = some ((i : Int), mk rest, bad) := by
  unfold labels_reader_sign.f
  obtain rfl | rfl | rfl | rfl : i = 0 ∨ i = 1 ∨ i = 2 ∨ i = 3 := by omega
  all_goals
    simp only [labels_reader_sign.l0, sgn_mk, hp_mk, Option.bind_some, take_mk]
    simp [sgL, List.isPrefixOf]
theorem name_fwd (n : List UInt8) (s : UInt8) (rest : List UInt8) (bad : Bool) (hn : ∀ c ∈ n, okN c = true) (hs : okN s = false) (hl : (n ++ s :: rest).length ≤ 1000000000) :
    labels_reader_name.f ((mk (n ++ s :: rest)).size + 2) (mk (n ++ s :: rest)) bad = some (mk n, mk (s :: rest), bad) := by
  rw [name_mk _ _ hl, List.takeWhile_append_of_pos hn, List.dropWhile_append_of_pos hn, List.takeWhile_cons, List.dropWhile_cons, hs]
  simp
end Go.Proofs.Ytbfiacnmielajaa.P
namespace Go.Proofs.Ytbfiacnmielajaa.P
open Go.RowKit Go.Proofs.YtbfiacnmielajaaW.PrintWords Go.Proofs.YtbfiacnmielajaaW.PrintLast Go.Proofs.YtbfiacnmielajaaW.PrintMore
set_option linter.unusedVariables false
set_option linter.unusedSimpArgs false
def bl (s : ByteArray) : List UInt8 := s.data.toList
theorem mk_bl (s : ByteArray) : mk (bl s) = s := mk_data s
theorem bl_size (s : ByteArray) : (bl s).length = s.size := by unfold bl; rw [Array.length_toList]; rfl
def pcL (x : Mt) : List UInt8 := bl x.f1 ++ (sgL x.f0.toNat ++ 34 :: ((bl x.f2).flatMap esc ++ [34]))
def bodyL : Bool → List Mt → List UInt8
  | _, [] => []
  | first, x :: r => (if first = true then [] else [44]) ++ (pcL x ++ bodyL false r)
def okK (x : Mt) : Prop := 0 ≤ x.f0 ∧ x.f0 ≤ 3
def okP (x : Mt) : Prop := okK x ∧ ∀ c ∈ bl x.f1, okN c = true
theorem okN125 : okN 125 = false := by decide
theorem pcL_hd (x : Mt) (hx : okP x) (r : List UInt8) : ∃ c t, pcL x ++ r = c :: t ∧ c ≠ 125 := by
  unfold pcL
  cases h : bl x.f1 with
  | nil =>
    cases hs : sgL x.f0.toNat with
    | nil => exfalso; revert hs; unfold sgL; split <;> simp
    | cons c t =>
      refine ⟨c, _, rfl, ?_⟩
      revert hs
      unfold sgL
      split <;> (intro e; injection e with e _; rw [← e]; decide)
  | cons c t =>
    refine ⟨c, _, rfl, fun e => ?_⟩
    have := hx.2 c (by rw [h]; simp)
    rw [e, okN125] at this
    cases this
theorem sg_hd (i : Nat) : ∃ s t, sgL i = s :: t ∧ okN s = false := by
  unfold sgL
  split
  · exact ⟨61, [], rfl, by decide⟩
  · exact ⟨33, [61], rfl, by decide⟩
  · exact ⟨94, [61], rfl, by decide⟩
  · exact ⟨42, [61], rfl, by decide⟩
theorem allL_fwd : ∀ (ms o : List Mt) (d : Nat) (rest : List UInt8), (∀ x ∈ ms, okP x) → o.length + ms.length ≤ 16 → 18 ≤ d + o.length → (bodyL (decide (o.length = 0)) ms ++ 125 :: rest).length ≤ 1000000 →
    allL d o (mk (bodyL (decide (o.length = 0)) ms ++ 125 :: rest)) false = some (o ++ ms, mk (125 :: rest), false) := by
  intro ms
  induction ms with
  | nil =>
    intro o d rest hp ho hd hz
    obtain ⟨d, rfl⟩ : ∃ q, d = q + 1 := ⟨d - 1, by simp at ho; omega⟩
    rw [show bodyL (decide (o.length = 0)) [] ++ 125 :: rest = 125 :: rest from rfl]
    simp only [allL]
    rw [if_neg (by decide), if_pos (show hp1 (mk (125 :: rest)) 125 = true by rw [show (125 : Int) = ((125 : UInt8).toNat : Int) from rfl, hp1_mk]; decide)]
    simp
  | cons x ms ih =>
    intro o d rest hp ho hd hz
    simp only [List.length_cons] at ho
    obtain ⟨d, rfl⟩ : ∃ q, d = q + 1 := ⟨d - 1, by omega⟩
    have hx := hp x (by simp)
    have eB : bodyL (decide (o.length = 0)) (x :: ms) ++ 125 :: rest = (if decide (o.length = 0) = true then [] else [44]) ++ (pcL x ++ (bodyL false ms ++ 125 :: rest)) := by
      simp only [bodyL]; simp [List.append_assoc]
    rw [eB] at hz ⊢
    obtain ⟨c, t, ec, hc⟩ := pcL_hd x hx (bodyL false ms ++ 125 :: rest)
    have h125 : hp1 (mk ((if decide (o.length = 0) = true then [] else [44]) ++ (pcL x ++ (bodyL false ms ++ 125 :: rest)))) 125 = false := by
      rw [ec]
      by_cases h0 : o.length = 0
      · rw [if_pos (decide_eq_true h0), show ([] : List UInt8) ++ c :: t = c :: t from rfl, show (125 : Int) = ((125 : UInt8).toNat : Int) from rfl, hp1_mk]
        exact decide_eq_false hc
      · rw [if_neg (by rw [decide_eq_false h0]; decide), show ([44] : List UInt8) ++ c :: t = 44 :: c :: t from rfl, show (125 : Int) = ((125 : UInt8).toNat : Int) from rfl, hp1_mk]
        decide
    have hz2 : (pcL x ++ (bodyL false ms ++ 125 :: rest)).length ≤ 1000000 := by rw [List.length_append] at hz; omega
    have hcm : (if o.length = 0 then some (mk ((if decide (o.length = 0) = true then [] else [44]) ++ (pcL x ++ (bodyL false ms ++ 125 :: rest))), false) else labels_reader_take.f (mk ((if decide (o.length = 0) = true then [] else [44]) ++ (pcL x ++ (bodyL false ms ++ 125 :: rest)))) false (⟨#[44]⟩ : ByteArray))
        = some (mk (pcL x ++ (bodyL false ms ++ 125 :: rest)), false) := by
      by_cases h0 : o.length = 0
      · rw [if_pos h0, if_pos (decide_eq_true h0)]; rfl
      · rw [if_neg h0, if_neg (by rw [decide_eq_false h0]; decide)]
        exact (take1_mk 44 44 _ false).trans (by rw [if_pos rfl]; rfl)
    simp only [allL]
    rw [if_neg (by decide), if_neg (by rw [h125]; decide), hcm]
    simp only [Option.bind_some]
    obtain ⟨s, st, es, hs⟩ := sg_hd x.f0.toNat
    have eP : pcL x ++ (bodyL false ms ++ 125 :: rest) = bl x.f1 ++ s :: (st ++ 34 :: ((bl x.f2).flatMap esc ++ 34 :: (bodyL false ms ++ 125 :: rest))) := by
      unfold pcL; rw [es]; simp [List.append_assoc]
    have eS : s :: (st ++ 34 :: ((bl x.f2).flatMap esc ++ 34 :: (bodyL false ms ++ 125 :: rest))) = sgL x.f0.toNat ++ 34 :: ((bl x.f2).flatMap esc ++ 34 :: (bodyL false ms ++ 125 :: rest)) := by rw [es]; rfl
    rw [eP] at hz2 ⊢
    rw [name_fwd _ s _ false hx.2 hs (by omega)]
    simp only [Option.bind_some]
    rw [eS] at hz2 ⊢
    have hk : x.f0.toNat ≤ 3 := by have := hx.1.2; omega
    rw [sign_fwd _ hk]
    simp only [Option.bind_some]
    rw [List.length_append, List.length_append] at hz2
    rw [value_fwd _ _ _ (by omega)]
    simp only [Option.bind_some]
    have e16 : ¬ 16 < o.length + 1 := by omega
    rw [if_neg e16]
    have eX : (⟨((x.f0.toNat : Nat) : Int), mk (bl x.f1), mk (bl x.f2)⟩ : Mt) = x := by
      rw [mk_bl, mk_bl, Int.toNat_of_nonneg hx.1.1]
    rw [eX]
    have := ih (o ++ [x]) d rest (fun y hy => hp y (by simp [hy])) (by simp; omega) (by simp; omega)
    rw [show decide ((o ++ [x]).length = 0) = false by simp] at this
    rw [this (by simp only [List.length_cons, List.length_append] at hz2 ⊢; omega)]
    simp
def txL (l : List Mt) : List UInt8 := 123 :: (bodyL true l ++ [125])
theorem all_fwd (ms : List Mt) (hp : ∀ x ∈ ms, okP x) (hn : ms.length ≤ 16) (hz : (txL ms).length ≤ 1000000) : labels_reader_all.f (mk (txL ms)) false = some (ms, mk [], false) := by
  unfold labels_reader_all.f
  unfold txL at hz ⊢
  have hz' : (bodyL true ms ++ [125]).length ≤ 1000000 := by simp only [List.length_cons] at hz; omega
  rw [take1_mk, if_pos rfl]
  simp only [Option.bind_some]
  have hA := allL_fwd ms [] 18 [] hp (by simpa using hn) (by simp) hz'
  rw [show decide (([] : List Mt).length = 0) = true from rfl] at hA
  rw [hA]
  simp only [Option.bind_some]
  rw [take1_mk, if_pos rfl]
  simp [mk_toList]
theorem pieceM_mk (x : Mt) : pieceM x = mk (pcL x) := by
  unfold pieceM pcL
  have h := quoted_mk (bl x.f2)
  rw [mk_bl] at h
  rw [h, sgn_mk]
  conv => lhs; rw [← mk_bl x.f1]
  rw [mk_append, mk_append, List.append_assoc]
theorem joinTail_b (l : List Mt) : Lib.joinTail [44] (l.map pcL) = bodyL false l := by
  induction l with
  | nil => rfl
  | cons x l ih =>
    unfold Lib.joinTail at ih ⊢
    rw [List.map_cons, List.map_cons, List.flatten_cons, ih]
    simp [bodyL, List.append_assoc]
theorem join_b (l : List Mt) : Lib.join (l.map pcL) [44] = bodyL true l := by
  cases l with
  | nil => rfl
  | cons x l => rw [List.map_cons, Lib.join_cons, joinTail_b]; simp [bodyL]
theorem joinB_mk (l : List Mt) : joinB (l.map pieceM) = mk (bodyL true l) := by
  unfold joinB
  rw [List.map_map]
  have : l.map ((fun x : ByteArray => x.data.toList) ∘ pieceM) = l.map pcL := List.map_congr_left (fun x _ => by
    show (pieceM x).data.toList = pcL x
    rw [pieceM_mk, mk_dtl])
  rw [this, join_b]; rfl
theorem braced_mk (l : List Mt) : bracedR (l.map pieceM) = mk (txL l) := by
  unfold bracedR txL
  rw [joinB_mk]
  exact (congrArg (· ++ mk [125]) (mk_append [123] _)).trans (mk_append _ [125])
end Go.Proofs.Ytbfiacnmielajaa.P
namespace Go.Proofs.Ytbfiacnmielajaa.P
open Go.RowKit Go.Proofs.YtbfiacnmielajaaW.PrintWords Go.Proofs.YtbfiacnmielajaaW.PrintLast Go.Proofs.YtbfiacnmielajaaW.PrintMore
set_option linter.unusedVariables false
set_option linter.unusedSimpArgs false
theorem chk_false {c : Int} {f : Bool} (h : chk c f = true) : chk c false = true := by
  unfold chk at *
  by_cases h1 : 48 ≤ c ∧ c ≤ 57
  · rw [if_pos h1]; rfl
  · rw [if_neg h1] at h ⊢; exact h
theorem nameL_ok (l : List UInt8) : ∀ (d i : Nat), i + d = l.length → nameL (mk l) d i = true → ∀ c ∈ l.drop i, okN c = true := by
  intro d
  induction d with
  | zero => intro i hi _ c hc; rw [List.drop_of_length_le (by omega)] at hc; simp at hc
  | succ d ih =>
    intro i hi h c hc
    have hlt : i < l.length := by omega
    simp only [nameL, Bool.and_eq_true] at h
    rw [bt_mk l i hlt] at h
    rw [List.drop_eq_getElem_cons hlt] at hc
    rcases List.mem_cons.1 hc with rfl | hc
    · exact chk_false h.1
    · exact ih (i + 1) (by omega) h.2 c hc
theorem nameR_ok {s : ByteArray} (h : nameR s = true) : s.size ≤ 40 ∧ ∀ c ∈ bl s, okN c = true := by
  have h' := h
  unfold nameR at h'
  simp only [Bool.and_eq_true, decide_eq_true_eq] at h'
  refine ⟨h'.2.1, ?_⟩
  have := nameL_ok (bl s) s.size 0 (by rw [bl_size]; omega) (by rw [mk_bl]; exact h'.2.2)
  simpa using this
def okR (x : Rm) : Prop := 0 ≤ x.f0 ∧ x.f0 ≤ 3 ∧ nameR x.f1 = true ∧ x.f2.size ≤ 200
theorem chkL_zero : ∀ (l : List Rm) (p : Option ByteArray), chkL 0 p l = 0 → ∀ x ∈ l, okR x := by
  intro l
  induction l with
  | nil => intro p h x hx; simp at hx
  | cons y l ih =>
    intro p h x hx
    simp only [chkL] at h
    by_cases h0 : y.f0 < 0 ∨ y.f0 > 3
    · rw [if_pos ⟨trivial, h0⟩] at h; omega
    · rw [if_neg (fun e => h0 e.2)] at h
      by_cases h1 : nameR y.f1 = true
      · rw [if_pos h1] at h
        by_cases h2 : y.f2.size ≤ 200
        · rw [if_pos h2, if_neg (fun e => absurd e.1 (by decide))] at h
          rcases List.mem_cons.1 hx with rfl | hx
          · exact ⟨by omega, by omega, h1, h2⟩
          · exact ih _ h x hx
        · rw [if_neg h2] at h; omega
      · rw [if_neg h1] at h; omega
theorem chkL_one : ∀ (l : List Rm) (p : Option ByteArray), (∀ x ∈ l, x.f0 = 0) → chkL 1 p l = 0 → chkL 0 p l = 0 := by
  intro l
  induction l with
  | nil => intro p _ h; rfl
  | cons y l ih =>
    intro p hk h
    simp only [chkL] at h ⊢
    have hy := hk y (by simp)
    rw [if_neg (fun e => absurd e.1 (by decide))] at h
    rw [if_neg (fun e => by have := e.2; omega)]
    by_cases h1 : nameR y.f1 = true
    · rw [if_pos h1] at h ⊢
      by_cases h2 : y.f2.size ≤ 200
      · rw [if_pos h2] at h ⊢
        by_cases h3 : True ∧ ∃ q, p = some q ∧ Op.bytesLess q.toList y.f1.toList = false
        · rw [if_pos h3] at h; omega
        · rw [if_neg h3] at h
          rw [if_neg (fun e => absurd e.1 (by decide))]
          exact ih _ (fun x hx => hk x (by simp [hx])) h
      · rw [if_neg h2] at h; omega
    · rw [if_neg h1] at h; omega
theorem checkR_zero {l : List Rm} (h : checkR 0 l = 0) : l.length ≤ 16 ∧ ∀ x ∈ l, okR x := by
  unfold checkR at h
  by_cases h1 : l.length > 16
  · rw [if_pos h1] at h; omega
  · rw [if_neg h1] at h; exact ⟨by omega, chkL_zero l none h⟩
theorem checkR_one {l : List Rm} (hk : ∀ x ∈ l, x.f0 = 0) (h : checkR 1 l = 0) : checkR 0 l = 0 := by
  unfold checkR at h ⊢
  by_cases h1 : l.length > 16
  · rw [if_pos h1] at h; omega
  · rw [if_neg h1] at h ⊢; exact chkL_one l none hk h
theorem okP_of {x : Mt} (h : okR (rfM x)) : okP x := ⟨⟨h.1, h.2.1⟩, (nameR_ok h.2.2.1).2⟩
theorem esc_len (c : UInt8) : (esc c).length ≤ 2 := by unfold esc; split; simp; split <;> simp
theorem escs_len (v : List UInt8) : (v.flatMap esc).length ≤ 2 * v.length := by
  induction v with
  | nil => simp
  | cons c v ih => rw [List.flatMap_cons, List.length_append, List.length_cons]; have := esc_len c; omega
theorem sgL_len (i : Nat) : (sgL i).length ≤ 2 := by unfold sgL; split <;> simp
theorem pcL_len (x : Mt) : (pcL x).length ≤ x.f1.size + 2 * x.f2.size + 4 := by
  unfold pcL
  have h1 := escs_len (bl x.f2)
  have h2 := sgL_len x.f0.toNat
  rw [bl_size] at h1
  simp only [List.length_append, List.length_cons, List.length_nil, bl_size]
  omega
theorem bodyL_len (n : Nat) : ∀ (l : List Mt) (b : Bool), (∀ x ∈ l, (pcL x).length ≤ n) → (bodyL b l).length ≤ l.length * (n + 1) := by
  intro l
  induction l with
  | nil => intro b h; simp [bodyL]
  | cons x l ih =>
    intro b h
    have h1 := h x (by simp)
    have h2 := ih false (fun y hy => h y (by simp [hy]))
    simp only [bodyL, List.length_append, List.length_cons]
    rw [Nat.add_mul]
    have h3 : (if b = true then ([] : List UInt8) else [44]).length ≤ 1 := by split <;> simp
    omega
theorem txL_len {l : List Mt} (h : checkR 0 (l.map rfM) = 0) : (txL l).length ≤ 8000 ∧ (bodyL true l).length ≤ 8000 := by
  obtain ⟨h1, h2⟩ := checkR_zero h
  rw [List.length_map] at h1
  have := bodyL_len 444 l true (fun x hx => by
    have h3 := h2 (rfM x) (List.mem_map_of_mem hx)
    have h4 := (nameR_ok h3.2.2.1).1
    have h5 := h3.2.2.2
    have h6 := pcL_len x
    have e1 : (rfM x).f1 = x.f1 := rfl
    have e2 : (rfM x).f2 = x.f2 := rfl
    rw [e1] at h4; rw [e2] at h5
    omega)
  have h7 : l.length * (444 + 1) ≤ 16 * 445 := Nat.mul_le_mul_right _ h1
  unfold txL
  simp only [List.length_cons, List.length_append, List.length_nil]
  omega
theorem name_small {l : List Mt} (h : checkR 0 (l.map rfM) = 0) : ∀ x ∈ l, x.f1.size ≤ 40 := fun x hx =>
  (nameR_ok ((checkR_zero h).2 (rfM x) (List.mem_map_of_mem hx)).2.2.1).1
theorem parseM_fwd (ms : List Mt) (h : checkR 0 (ms.map rfM) = 0) : labels_ParseMatchers.f (mk (txL ms)) = some (ms, 0) := by
  have h1 := checkR_zero h
  unfold labels_ParseMatchers.f
  rw [all_fwd ms (fun x hx => okP_of (h1.2 (rfM x) (List.mem_map_of_mem hx))) (by simpa using h1.1) (by have := (txL_len h).1; omega)]
  simp only [Option.bind_some]
  rw [if_neg (by decide), checkM_eq ms (fun _ x hx => by have := name_small h x hx; omega) 3000 (by omega), h]
  rfl
theorem braced_eq (l : List Mt) (h : checkR 0 (l.map rfM) = 0) : labels_braced.f (l.map pieceM) = some (mk (txL l)) := by
  obtain ⟨h1, h2⟩ := checkR_zero h
  rw [List.length_map] at h1
  unfold labels_braced.f
  rw [if_pos ⟨by rw [List.length_map]; omega, by rw [joinB_mk, mk_size]; have := (txL_len h).2; omega⟩, braced_mk]
def toL (x : Mt) : Lb := ⟨x.f1, x.f2⟩
def toM (x : Lb) : Mt := ⟨0, x.f0, x.f1⟩
theorem toM_rf (l : List Lb) : (l.map toM).map rfM = l.map rfL := by rw [List.map_map]; rfl
theorem toL_rf {l : List Mt} (h : ∀ x ∈ l, x.f0 = 0) : (l.map toL).map rfL = l.map rfM := by
  rw [List.map_map]
  exact List.map_congr_left (fun x hx => by
    have := h x hx
    obtain ⟨a, b, c⟩ := x
    simp only at this
    subst this; rfl)
theorem toLM (l : List Lb) : (l.map toM).map toL = l := by rw [List.map_map]; exact List.map_id l
theorem rfL_k (l : List Lb) : ∀ x ∈ l.map rfL, x.f0 = 0 := fun x hx => by obtain ⟨y, _, rfl⟩ := List.mem_map.1 hx; rfl
theorem parse_l0 (ms : List Mt) (hm : ms.length ≤ 16) (hn : ∀ x ∈ ms, x.f1.size ≤ 2500) : ∀ (d k i : Nat), i + d = ms.length → d + 2701 < k → (∀ x ∈ ms.take i, x.f0 = 0) →
    labels_Parse.l0 k ((ms.take i).map toL) ms (ms.length : Int) (i : Int) = some (if (∀ x ∈ ms, x.f0 = 0) ∧ checkR 1 (ms.map rfM) = 0 then (ms.map toL, 0) else ([], 10)) := by
  intro d
  induction d with
  | zero =>
    intro k i hi hk ht
    obtain ⟨k, rfl⟩ : ∃ q, k = q + 1 := ⟨k - 1, by omega⟩
    rw [List.take_of_length_le (by omega)] at ht ⊢
    simp only [labels_Parse.l0]
    rw [if_neg (by omega), checkL_eq (ms.map toL) (fun _ x hx => by obtain ⟨y, hy, rfl⟩ := List.mem_map.1 hx; exact hn y hy) k (by omega), toL_rf ht]
    simp only [Option.bind_some]
    by_cases h : checkR 1 (ms.map rfM) = 0
    · rw [if_pos h, if_pos ⟨ht, h⟩]
    · rw [if_neg h, if_neg (fun e => h e.2)]
  | succ d ih =>
    intro k i hi hk ht
    obtain ⟨k, rfl⟩ : ∃ q, k = q + 1 := ⟨k - 1, by omega⟩
    have hlt : i < ms.length := by omega
    simp only [labels_Parse.l0]
    rw [if_pos (by omega), if_pos (by omega), if_pos (by omega), rdM_ ms i hlt, wrS (by omega)]
    by_cases h0 : ms[i].f0 = 0
    · rw [if_pos h0, if_pos (by simp; omega), ← ih k (i + 1) (by omega) (by omega) (fun x hx => by
        rw [List.take_succ_eq_append_getElem hlt, List.mem_append] at hx
        rcases hx with h | h
        · exact ht x h
        · rw [List.mem_singleton] at h; rw [h]; exact h0), List.take_succ_eq_append_getElem hlt, List.map_append]
      rfl
    · rw [if_neg h0, if_neg (fun e => h0 (e.1 _ (List.getElem_mem hlt)))]
theorem parse_of {s : ByteArray} {ms : List Mt} {e : Int} (h : labels_ParseMatchers.f s = some (ms, e)) (k : Nat) (hk : 3000 < k) (hm : e = 0 → checkR 0 (ms.map rfM) = 0) :
    labels_Parse.f k s = some (if e = 0 then (if (∀ x ∈ ms, x.f0 = 0) ∧ checkR 1 (ms.map rfM) = 0 then (ms.map toL, 0) else ([], 10)) else ([], e)) := by
  unfold labels_Parse.f
  rw [h]
  simp only [Option.bind_some]
  by_cases h0 : e = 0
  · rw [if_pos h0, if_pos h0]
    have hc := hm h0
    have h1 := (checkR_zero hc).1
    rw [List.length_map] at h1
    exact parse_l0 ms h1 (fun x hx => by have := name_small hc x hx; omega) ms.length k 0 (by omega) (by omega) (fun x hx => by simp at hx)
  · rw [if_neg h0, if_neg h0]
theorem text_l0 (l : List Lb) (hl : l.length ≤ 16) (hv : ∀ x ∈ l, x.f0.size ≤ 40 ∧ x.f1.size ≤ 200) (hc : checkR 0 ((l.map toM).map rfM) = 0) : ∀ (d k i : Nat), i + d = l.length → d + 300 < k →
    labels_Text.l0 k (((l.take i).map toM).map pieceM) l (l.length : Int) (i : Int) = some (mk (txL (l.map toM)), 0) := by
  intro d
  induction d with
  | zero =>
    intro k i hi hk
    obtain ⟨k, rfl⟩ : ∃ q, k = q + 1 := ⟨k - 1, by omega⟩
    simp only [labels_Text.l0]
    rw [if_neg (by omega), List.take_of_length_le (by omega), braced_eq _ hc]
    rfl
  | succ d ih =>
    intro k i hi hk
    obtain ⟨k, rfl⟩ : ∃ q, k = q + 1 := ⟨k - 1, by omega⟩
    have hlt : i < l.length := by omega
    obtain ⟨hx1, hx2⟩ := hv l[i] (List.getElem_mem hlt)
    have hz := quotedR_size l[i].f1
    simp only [labels_Text.l0]
    rw [if_pos (by omega), if_pos (by omega), if_pos (by omega), rdL_ l i hlt, if_pos (by omega), quoted_eq _ (by omega) k (by omega)]
    simp only [Option.bind_some]
    rw [if_pos (by rw [ByteArray.size_append]; have : (⟨#[61]⟩ : ByteArray).size = 1 := rfl; omega), if_pos (by simp; omega), wrS (by omega), ← ih k (i + 1) (by omega) (by omega), List.take_succ_eq_append_getElem hlt, List.map_append, List.map_append]
    rfl
theorem text_eq (l : List Lb) (hn : l.length ≤ 16 → ∀ x ∈ l, x.f0.size ≤ 2500) (k : Nat) (hk : 3000 < k) : labels_Text.f k l = some (if checkR 1 (l.map rfL) = 0 then (mk (txL (l.map toM)), 0) else (⟨#[]⟩, checkR 1 (l.map rfL))) := by
  unfold labels_Text.f
  rw [checkL_eq l hn k (by omega)]
  simp only [Option.bind_some]
  by_cases h : checkR 1 (l.map rfL) = 0
  · rw [if_pos h, if_pos h]
    have hc := checkR_one (rfL_k l) h
    obtain ⟨h1, h2⟩ := checkR_zero hc
    rw [List.length_map] at h1
    rw [← toM_rf] at hc
    exact text_l0 l h1 (fun x hx => by
      have h3 := h2 (rfL x) (List.mem_map_of_mem hx)
      exact ⟨(nameR_ok h3.2.2.1).1, h3.2.2.2⟩) hc l.length k 0 (by omega) (by omega)
  · rw [if_neg h, if_neg h]
end Go.Proofs.Ytbfiacnmielajaa.P
namespace Go.Proofs.Ytbfiacnmielajaa.P
open Go.RowKit Go.Proofs.YtbfiacnmielajaaW.PrintWords Go.Proofs.YtbfiacnmielajaaW.PrintLast Go.Proofs.YtbfiacnmielajaaW.PrintMore
set_option linter.unusedVariables false
set_option linter.unusedSimpArgs false
theorem toList_d (s : ByteArray) : s.toList = s.data.toList := Go.ByteArray.toList_eq s
theorem toList_inj {a b : ByteArray} : a.toList = b.toList ↔ a = b := by
  rw [toList_d, toList_d]; exact ⟨fun h => ByteArray.ext (Array.toList_inj.1 h), fun h => by rw [h]⟩
instance decRm : DecidableEq Rm := fun x y => decidable_of_iff (x.f0 = y.f0 ∧ x.f1 = y.f1 ∧ x.f2 = y.f2) (by
  obtain ⟨a, b, c⟩ := x
  obtain ⟨d, e, g⟩ := y
  simp)
theorem same_l0 (l m : List Rm) (hl : l.length ≤ 1000000) (hm : l.length = m.length) : ∀ (d k i : Nat), i + d = l.length → d < k → tidepolelaw30_same.l0 k l m (l.length : Int) (i : Int) = some (decide (l.drop i = m.drop i)) := by
  intro d
  induction d with
  | zero =>
    intro k i hi hk
    obtain ⟨k, rfl⟩ : ∃ q, k = q + 1 := ⟨k - 1, by omega⟩
    simp only [tidepolelaw30_same.l0]
    rw [if_neg (by omega), List.drop_of_length_le (show l.length ≤ i by omega), List.drop_of_length_le (show m.length ≤ i by omega)]
    rfl
  | succ d ih =>
    intro k i hi hk
    obtain ⟨k, rfl⟩ : ∃ q, k = q + 1 := ⟨k - 1, by omega⟩
    have hlt : i < l.length := by omega
    simp only [tidepolelaw30_same.l0]
    rw [if_pos (by omega), if_pos (by omega), if_pos (by omega), if_pos (by omega), rdR_ l i hlt, rdR_ m i (by omega), wrS (by omega), ih k (i + 1) (by omega) (by omega), List.drop_eq_getElem_cons hlt, List.drop_eq_getElem_cons (show i < m.length by omega)]
    generalize l[i] = x
    generalize m[i]'(by omega) = y
    obtain ⟨a, b, c⟩ := x
    obtain ⟨d1, e, g⟩ := y
    dsimp only
    by_cases h0 : a = d1
    · by_cases h1 : b = e
      · by_cases h2 : c = g
        · subst h0 h1 h2; simp
        · have h2' : ¬ c.toList = g.toList := fun h => h2 (toList_inj.1 h)
          simp [h0, h1, h2, h2']
      · have h1' : ¬ b.toList = e.toList := fun h => h1 (toList_inj.1 h)
        simp [h0, h1, h1']
    · simp [h0]
theorem same_eq (l m : List Rm) (hl : l.length ≤ 1000000) (k : Nat) (hk : l.length < k) : tidepolelaw30_same.f k l m = some (decide (l = m)) := by
  unfold tidepolelaw30_same.f
  by_cases h : l.length = m.length
  · rw [if_pos (by omega), show (0 : Int) = ((0 : Nat) : Int) from rfl, same_l0 l m hl h l.length k 0 (by omega) hk]; rfl
  · rw [if_neg (by omega), decide_eq_false (fun e => h (by rw [e]))]
theorem rfL_inj {l m : List Lb} : l.map rfL = m.map rfL ↔ l = m := by
  constructor
  · intro h
    exact List.map_inj_right (f := rfL) (fun x y e => by
      obtain ⟨a, b⟩ := x
      obtain ⟨c, d⟩ := y
      simp only [rfL] at e
      injection e with _ e1 e2
      rw [e1, e2]) |>.1 h
  · intro h; rw [h]
end Go.Proofs.Ytbfiacnmielajaa.P
namespace Go.Proofs.Ytbfiacnmielajaa.P
open Go.RowKit Go.Proofs.YtbfiacnmielajaaW.PrintWords Go.Proofs.YtbfiacnmielajaaW.PrintLast Go.Proofs.YtbfiacnmielajaaW.PrintMore
set_option linter.unusedVariables false
set_option linter.unusedSimpArgs false
theorem small_mem {l : List Rm} (h : smallB l = true) : l.length ≤ 30 ∧ ∀ x ∈ l, x.f1.size ≤ 100 ∧ x.f2.size ≤ 300 := by
  unfold smallB at h
  simp only [Bool.and_eq_true, decide_eq_true_eq, List.all_eq_true] at h
  refine ⟨h.2, fun x hx => ?_⟩
  have := h.1 x hx
  unfold smB at this
  simpa using this
theorem e0 : (⟨#[]⟩ : ByteArray).toList = [] := by rw [Go.ByteArray.toList_eq]
theorem checkM_of {l : List Lb} (h : checkR 1 (l.map rfL) = 0) : checkR 0 ((l.map toM).map rfM) = 0 := by
  rw [toM_rf]; exact checkR_one (rfL_k l) h
theorem parse_back (l : List Lb) (h : checkR 1 (l.map rfL) = 0) (k : Nat) (hk : 3000 < k) : labels_Parse.f k (mk (txL (l.map toM))) = some (l, 0) := by
  rw [parse_of (parseM_fwd _ (checkM_of h)) k hk (fun _ => checkM_of h), if_pos rfl, if_pos ⟨fun x hx => by obtain ⟨y, _, rfl⟩ := List.mem_map.1 hx; rfl, by rw [toM_rf]; exact h⟩, toLM]
theorem labelsApart_f (a b : List Lb) (ha : a.length ≤ 1048576) (hb : b.length ≤ 1048576) : tidepolelaw30_LabelsApart.f 2000000 a b = some true := by
  unfold tidepolelaw30_LabelsApart.f
  rw [ref_eq a (by omega) _ (by omega), ref_eq b (by omega) _ (by omega)]
  simp only [Option.bind_some]
  rw [small_eq _ (by simp; omega) _ (by rw [List.length_map]; omega), small_eq _ (by simp; omega) _ (by rw [List.length_map]; omega)]
  simp only [Option.bind_some]
  rw [show (2000000 : Nat) = 1999999 + 1 from rfl]
  have hT : tidepolelaw30_LabelsApart.j0 (1999999 + 1) a b true = some true := by
    simp only [tidepolelaw30_LabelsApart.j0]; rfl
  cases hs : smallB (a.map rfL) with
  | false => rw [if_neg (by decide)]; exact hT
  | true =>
    rw [if_pos rfl]
    cases hs2 : smallB (b.map rfL) with
    | false => exact hT
    | true =>
      obtain ⟨hl, hm⟩ := small_mem hs
      obtain ⟨hl2, hm2⟩ := small_mem hs2
      rw [List.length_map] at hl hl2
      have hn : ∀ x ∈ a, x.f0.size ≤ 100 := fun x hx => (hm (rfL x) (List.mem_map_of_mem hx)).1
      have hn2 : ∀ x ∈ b, x.f0.size ≤ 100 := fun x hx => (hm2 (rfL x) (List.mem_map_of_mem hx)).1
      simp only [tidepolelaw30_LabelsApart.j0]
      rw [if_neg (by decide), text_eq a (fun _ x hx => by have := hn x hx; omega) _ (by omega), text_eq b (fun _ x hx => by have := hn2 x hx; omega) _ (by omega)]
      simp only [Option.bind_some]
      rw [show (1999999 : Nat) = 1999998 + 1 from rfl]
      have hT1 : ∀ x y, tidepolelaw30_LabelsApart.j1 (1999998 + 1) a b x y true = some true := by
        intro x y
        simp only [tidepolelaw30_LabelsApart.j1]; rfl
      by_cases h : checkR 1 (a.map rfL) = 0
      · rw [if_pos h, if_pos (show ((mk (txL (a.map toM)), (0 : Int)).2 = 0) from rfl)]
        by_cases h2 : checkR 1 (b.map rfL) = 0
        · rw [if_pos h2]
          have hz : ((0 : Int) != 0) = false := rfl
          rw [hz]
          simp only [tidepolelaw30_LabelsApart.j1]
          rw [if_neg (by decide), ref_eq a (by omega) _ (by omega), ref_eq b (by omega) _ (by omega)]
          simp only [Option.bind_some]
          rw [same_eq _ _ (by simp; omega) _ (by simp; omega)]
          simp only [Option.bind_some]
          have hq : ((mk (txL (a.map toM))).toList == (mk (txL (b.map toM))).toList) = decide (a.map rfL = b.map rfL) := by
            rw [Bool.eq_iff_iff, beq_iff_eq, decide_eq_true_eq, toList_inj]
            constructor
            · intro e
              have h3 := parse_back a h 4000 (by omega)
              rw [e, parse_back b h2 4000 (by omega)] at h3
              injection h3 with h3
              injection h3 with h3 _
              rw [h3]
            · intro e
              rw [rfL_inj.1 e]
          rw [hq, if_pos (by simp)]; rfl
        · rw [if_neg h2]
          have hz : ((checkR 1 (b.map rfL)) != 0) = true := by simpa using h2
          rw [hz]; exact hT1 _ _
      · rw [if_neg h, if_neg h]; exact hT1 _ _
end Go.Proofs.Ytbfiacnmielajaa.P
namespace Go.Proofs.Ytbfiacnmielajaa.P
set_option linter.unusedVariables false
theorem Pure.LabelsApart (x0 x1 : List Lb) (w0 : ∀ x ∈ x0, wf58 x) (w1 : ∀ x ∈ x1, wf58 x) (h0 : x0.length ≤ 1048576) (h1 : x1.length ≤ 1048576) : ∃ k, tidepolelaw30_LabelsApart.f k x0 x1 = some true := ⟨_, labelsApart_f x0 x1 h0 h1⟩
end Go.Proofs.Ytbfiacnmielajaa.P
namespace Go.Proofs.Ytbfiacnmielajaa.labelsApart
open Go.ChangeShapes Go.WideShapes Go.ChangeAt Go.RowKit Go.Proofs.Ytbfiacnmielajaa.P Go.Proofs.YtbfiacnmielajaaW.PrintWords
set_option linter.unusedVariables false
theorem own : ownKnob Try.prog.godebug = none := by kernel_rfl
theorem laidOut : laidOutB Try.prog = true := by kernel_rfl
theorem bulk_pos {H : Type} (d : DataW H) : 1 ≤ Rows.uptoBulk d := by
  cases d with
  | lit l => cases l <;> simp [Rows.uptoBulk]
  | _ => simp [Rows.uptoBulk]
theorem bulk_len {H : Type} : ∀ l : List (DataW H), l.length ≤ Rows.uptoBulkAll l
  | [] => Nat.le_refl _
  | d :: l => by have h1 := bulk_pos d; have h2 := bulk_len l; simp only [Rows.uptoBulkAll, List.length_cons]; omega
theorem len_upto {H : Type} {enc : TypeId × Value → H} {P : Program} {w : World} {base : Nat} {sp : Nat → Bool} {held : Bool} {fuel : Nat} {t e : TypeId} {A : Option Addr} {n c : Nat} {x : DataW H × List MemPlace} (ht : P.underlying t = some (.slice e)) (h : DataW.trod enc P w base sp held fuel t [.slice A n c] = some x) : n ≤ Rows.uptoBulk x.1 := by
  rcases DataW.trod_slice ht h with ⟨e1, _⟩ | ⟨a, len, cap, el, re, m, _, e1, e2, _, _, _, hl, _⟩
  · injection e1 with e1 _; injection e1 with _ e1 _; omega
  · injection e1 with e1 _; injection e1 with _ e1 _
    have := bulk_len (el.map (·.1))
    rw [e2]
    simp only [Rows.uptoBulk, List.length_map] at *
    omega
set_option maxRecDepth 100000 in
set_option maxHeartbeats 4000000 in
theorem wit (os : Os) {H : Type} (enc : TypeId × Value → H) : ∃ x, DataW.whole enc Try.prog (World.plainHolding Try.prog os ⟨#[], #[.slice none 0 0, .slice none 0 0], []⟩).memory Try.f7.params.toList (Rows.OpenSpec.upto Rows.labelsApartSpec).vars false (#[.slice none 0 0, .slice none 0 0] : Array Value).toList 8 = some x ∧ Rows.uptoSmall H (x.1 ++ x.2.1) = true := by
  have hw : (DataW.whole enc Try.prog (World.plainHolding Try.prog os ⟨#[], #[.slice none 0 0, .slice none 0 0], []⟩).memory Try.f7.params.toList (Rows.OpenSpec.upto Rows.labelsApartSpec).vars false (#[.slice none 0 0, .slice none 0 0] : Array Value).toList 8).map (fun x => Rows.uptoSmall H (x.1 ++ x.2.1)) = some true := by kernel_rfl
  obtain ⟨x, hx, h1⟩ := Option.map_eq_some_iff.1 hw
  exact ⟨x, hx, h1⟩
set_option maxRecDepth 100000 in
set_option maxHeartbeats 4000000 in
theorem lifted (os : Os) (started : os.Started) (H : Type) (enc : TypeId × Value → H) (F : Stop.Interp) :
    ReturnsInHanded {} Try.checked os 7 .any ((Rows.OpenSpec.upto Rows.labelsApartSpec).pre6 enc Try.prog Try.f7 Rows.labelsApartUptoRow.domain false) (((Rows.OpenSpec.upto Rows.labelsApartSpec).at F).post enc Try.prog Try.f7 false true false false) := by
  obtain ⟨x, hx, hk⟩ := wit os enc
  refine returnsInHanded_of_cond (C := Try.checked) (s := (Rows.OpenSpec.upto Rows.labelsApartSpec)) (k := Rows.uptoSmall) rfl own started (by kernel_rfl) Try.func7
    (OpenSpec.witness (enc := enc) (C := Try.checked) (s := (Rows.OpenSpec.upto Rows.labelsApartSpec)) (k := Rows.uptoSmall) rfl false ⟨#[], #[.slice none 0 0, .slice none 0 0], []⟩ 8 (by kernel_rfl) (by kernel_rfl) (by kernel_rfl) hx (by rfl) hk) ?_
  intro W base args ds gs before hval0 hW hcnd hbulk _
  have hval : ∀ (j : Nat) t v, Try.f7.params[j]? = some t → args[j]? = some v → Value.okWide Try.prog W .any base t v := hval0
  have hW' := hW
  obtain ⟨p, q, hA0, hV, rfl, hfz, hnd⟩ := hW
  have hA : DataW.TrodAll enc Try.prog W 0 (fun _ => true) true Try.f7.params.toList args.toList ds p := hA0
  rw [Try.params7] at hA hval
  obtain ⟨v0, vs0, d0, ds0, p0, q0, hargs, rfl, rfl, h0, r0⟩ := trodAll_cons hA
  obtain ⟨v1, vs1, d1, ds1, p1, q1, rfl, rfl, rfl, h1, r1⟩ := trodAll_cons r0
  obtain ⟨rfl, rfl, rfl⟩ := trodAll_nil r1
  obtain rfl : args = #[v0, v1] := by cases args; simp_all
  obtain ⟨rfl, rfl⟩ := trodVars_none hV
  have k0 := h0
  have lt0 : ∀ x ∈ p0, x.block < W.heap.size := by obtain ⟨m, hm⟩ := k0; exact DataW.trod_lt m _ _ _ hm
  obtain ⟨fu0, hf0⟩ := h0
  obtain ⟨x0, hK0, w0⟩ := (opens_slice (d := k58) Try.underlying22 (by kernel_rfl) opens58) enc W 0 _ true fu0 _ _ hf0
  obtain ⟨va0, vl0, vc0, rfl⟩ := okWide_slice Try.underlying22 (hval 0 22 v0 rfl rfl)
  obtain ⟨A0, c0, he0, h0_l, hC0⟩ := hK0
  simp [Value.cells] at he0
  obtain ⟨rfl, rfl, rfl⟩ := he0
  have k1 := h1
  have lt1 : ∀ x ∈ p1, x.block < W.heap.size := by obtain ⟨m, hm⟩ := k1; exact DataW.trod_lt m _ _ _ hm
  obtain ⟨fu1, hf1⟩ := h1
  obtain ⟨x1, hK1, w1⟩ := (opens_slice (d := k58) Try.underlying22 (by kernel_rfl) opens58) enc W 0 _ true fu1 _ _ hf1
  obtain ⟨va1, vl1, vc1, rfl⟩ := okWide_slice Try.underlying22 (hval 1 22 v1 rfl rfl)
  obtain ⟨A1, c1, he1, h1_l, hC1⟩ := hK1
  simp [Value.cells] at he1
  obtain ⟨rfl, rfl, rfl⟩ := he1
  clear hA0 hval0
  have hbk : Rows.uptoBulkAll [d0, d1] ≤ 1048576 := by
    have h_ : decide (Rows.uptoBulkAll ([d0, d1] ++ []) ≤ 1048576) = true := hbulk
    rw [List.append_nil] at h_
    exact of_decide_eq_true h_
  simp only [Rows.uptoBulkAll] at hbk
  have hl0 := len_upto Try.underlying22 hf0
  have hl1 := len_upto Try.underlying22 hf1
  obtain ⟨k, hk_⟩ := Pure.LabelsApart x0 x1 w0 w1 (Nat.le_trans (show _ ≤ Rows.uptoBulk d0 from hl0) (by omega)) (Nat.le_trans (show _ ≤ Rows.uptoBulk d1 from hl1) (by omega))
  refine (P.tidepolelaw30_LabelsApart.calls k va0 vc0 x0 va1 vc1 x1 true W hC0 h0_l hC1 h1_l hk_).mono fun e W' ⟨he, bel⟩ => ?_
  subst he
  exact ⟨_, rfl, _, _, _, [], _, [], hW', trodAll_mk1 (shut_bool Try.underlying4 _), (trodAll_cons_mk (Below.trod laidOut (by kernel_rfl) (of_decide_eq_true (by kernel_rfl)) k0 bel lt0) (trodAll_cons_mk (Below.trod laidOut (by kernel_rfl) (of_decide_eq_true (by kernel_rfl)) k1 bel lt1) trodAll_mk0)), rfl, bel.frame _, fun h => by cases h⟩
theorem cf0 : (Rows.labelsApartUptoRow.wf (Rows.OpenSpec.upto Rows.labelsApartSpec)) = true := by kernel_rfl
theorem cf1 : (laidOutB Try.prog) = true := P.head_laidOut
theorem cf2 : (mapsRowed Try.prog) = true := P.head_mapsRowed
theorem cf3 : (Try.f7.params.all (Try.prog.readableRec ·)) = true := by kernel_rfl
theorem cf4 : (namedTie Try.prog Rows.labelsApartUptoRow.named Rows.labelsApartSpec.vars) = true := by kernel_rfl
theorem cf5 : ((Rows.labelsApartUptoRow.stops == [])) = true := by kernel_rfl
theorem cf6 : ((Try.prog.stops == [])) = true := P.head_stops
theorem cf7 : ((Rows.labelsApartUptoRow.knobs == [])) = true := by kernel_rfl
theorem cf8 : ((Try.prog.stopKnobs == [])) = true := P.head_stopKnobs
theorem cf9 : ((Rows.labelsApartUptoRow.inPlace == Try.prog.inPlace 7)) = true := by kernel_rfl
theorem cf10 : ((Rows.labelsApartUptoRow.unfollowed == Try.prog.unfollowed 7)) = true := by kernel_rfl
theorem cf11 : ((Rows.labelsApartUptoRow.recurses == Try.prog.recurses 7)) = true := by kernel_rfl
theorem cf12 : ((Rows.labelsApartUptoRow.named == Try.prog.varsNamed 7)) = true := by kernel_rfl
theorem cf13 : ((Rows.labelsApartUptoRow.maps == (Try.f7.params.toList ++ Rows.labelsApartSpec.plain.varTypes Try.prog).any (Try.prog.mapsRec ·))) = true := by kernel_rfl
theorem cf14 : ((Rows.labelsApartUptoRow.ifaces == (Try.f7.params.toList ++ Rows.labelsApartSpec.plain.varTypes Try.prog).any (Try.prog.ifacesRec ·))) = true := by kernel_rfl
theorem cf15 : ((Rows.labelsApartUptoRow.mapsOut == Try.prog.mapsAmong Try.f7.resultTypes.toList)) = true := by kernel_rfl
theorem cf16 : ((Rows.labelsApartUptoRow.loops == (Try.f7.params.toList ++ Rows.labelsApartSpec.plain.varTypes Try.prog).any (Try.prog.loopsFrom ·))) = true := by kernel_rfl
theorem cf17 : ((Rows.labelsApartUptoRow.wideKeys == (Try.f7.params.toList ++ Rows.labelsApartSpec.plain.varTypes Try.prog ++ Try.f7.resultTypes.toList).any (Try.prog.wideKeysFrom ·))) = true := by kernel_rfl
theorem cf18 : (Rows.labelsApartSpec.vars.all (Try.prog.varReadable ·)) = true := by kernel_rfl
theorem cf19 : (Try.f7.resultTypes.all (fun t => Try.prog.readableRec t && decide (t < Try.prog.types.size))) = true := by kernel_rfl
theorem cf20 : ((Rows.labelsApartUptoRow.ifacesOut == Try.f7.resultTypes.toList.any (Try.prog.ifacesRec ·))) = true := by kernel_rfl
theorem cf21 : ((Rows.labelsApartUptoRow.loopsOut == Try.f7.resultTypes.toList.any (Try.prog.loopsFrom ·))) = true := by kernel_rfl
theorem cf22 : ((Rows.labelsApartUptoRow.plainKeys == Try.prog.plainKeys)) = true := by rw [P.head_plainKeys]; kernel_rfl
theorem cf23 : (Rows.labelsApartUptoRow.shortTexts.isNone) = true := by kernel_rfl
theorem cf24 : (Try.prog.stopsHeard) = true := P.head_stopsHeard
theorem cf25 : (Try.prog.mayEnter) = true := P.head_mayEnter
theorem cf26 : ((Rows.labelsApartUptoRow.lifted == Try.prog.liftsFinal)) = true := by rw [P.head_liftsFinal]; kernel_rfl
theorem cf27 : ((Try.prog.make == some Rows.labelsApartUptoRow.make)) = true := by rw [P.head_make]; kernel_rfl
theorem cf28 : ((Rows.labelsApartUptoRow.kinds == (if Rows.labelsApartUptoRow.domain.isEmpty then [] else Try.f7.params.toList.map fun t => match Try.prog.underlying t with | some (.int k) => some k | _ => none))) = true := by kernel_rfl
theorem cf29 : ((Rows.labelsApartUptoRow.pinned == Rows.labelsApartUptoRow.pinnedBy)) = true := by kernel_rfl
theorem cf30 : ((Rows.labelsApartUptoRow.veiled == (Try.f7.params.toList ++ Rows.labelsApartSpec.plain.varTypes Try.prog ++ Try.f7.resultTypes.toList).any (Try.prog.veiledRec ·))) = true := by kernel_rfl
theorem cf31 : (Rows.labelsApartUptoRow.veiledFits Try.prog Try.f7.params.toList (Try.f7.params.toList ++ Rows.labelsApartSpec.plain.varTypes Try.prog ++ Try.f7.resultTypes.toList)) = true := by kernel_rfl
theorem band_mk {a b : Bool} (h : a = true) (k : b = true) : (a && b) = true := by rw [h, k]; rfl
theorem closed : joinedFacts Try.prog 7 Try.f7 (Rows.OpenSpec.upto Rows.labelsApartSpec).bare Rows.labelsApartUptoRow = true := by unfold joinedFacts; exact (band_mk (band_mk (band_mk (band_mk (band_mk (band_mk (band_mk (band_mk (band_mk (band_mk (band_mk (band_mk (band_mk (band_mk (band_mk (band_mk (band_mk (band_mk (band_mk (band_mk (band_mk (band_mk (band_mk (band_mk (band_mk (band_mk (band_mk (band_mk (band_mk (band_mk (band_mk cf0 cf1) cf2) cf3) cf4) cf5) cf6) cf7) cf8) cf9) cf10) cf11) cf12) cf13) cf14) cf15) cf16) cf17) cf18) cf19) cf20) cf21) cf22) cf23) cf24) cf25) cf26) cf27) (by kernel_rfl)) cf29) cf30) cf31)
theorem over : Rows.labelsApartUptoRow.holds Try.pinned (Rows.OpenSpec.upto Rows.labelsApartSpec) :=
  OpenClaim.holds_of_cond 7 Try.f7 rfl rfl rfl rfl rfl rfl rfl ⟨rfl, rfl, rfl, rfl, rfl⟩ rfl rfl rfl rfl rfl (by kernel_rfl) Try.func7 closed
    (of_decide_eq_true (by kernel_rfl)) (by unfold Func.isWrapper; first | (rw [if_pos (by decide +kernel)]; kernel_rfl) | (rw [if_neg (by decide +kernel)]; exact ⟨rfl, rfl⟩))
    (fun os started H enc _ F => by rw [OpenClaim.pre_of_none' rfl]; exact lifted os started H enc F)
theorem proved : Rows.LabelsApartUptoSaid := over
#print axioms proved
end Go.Proofs.Ytbfiacnmielajaa.labelsApart
namespace Go.Proofs.Ytbfiacnmielajaa
theorem labelsApart_holds : Rows.LabelsApartUptoSaid := labelsApart.proved
end Go.Proofs.Ytbfiacnmielajaa
