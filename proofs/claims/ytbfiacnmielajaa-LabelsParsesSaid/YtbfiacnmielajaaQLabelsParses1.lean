/- LabelsParses: the part that this text bears of the proof that the statement answers true for every input. No condition. -/
import Derived.Test.YtbfiacnmielajaaProg
import Derived.Below
import Derived.Deep.Draws
import Derived.Deep.AppendLies
import Derived.Maps.AppendAt
import Derived.OwnWalk
import Derived.Laws.BytesArg
import Derived.Laws.MakeOwn
import Derived.Laws.OwnMore
import Derived.Deep.OwnRows
import Derived.Tactics
import Derived.Lib.ConvBytes
import Derived.Laws.Slices
import Derived.WalkKit
import Derived.KernelRfl
import Derived.RowKit3
import Derived.Deep.LoopGhost
import Derived.Deep.QuietTactic
import Derived.BigQuiet
import Derived.WideLaws
import Derived.Deep.DeepCutAuto
import Derived.Deep.CutBlock
import Derived.Deep.RegionHeld3
import Derived.Laws.Rows
import Derived.Lib.AppendStr
import Derived.ArgAppend
import Derived.Laws.IdiomCopy
import Derived.OrdersHeld
import Derived.Laws.BitsLemmas
import Derived.RowKit
import Derived.Laws.Strings
import Derived.Laws.Cover1
import Derived.Shelf.Lays
import Derived.Shelf.Strings.Builder1
import Derived.Shelf.Strings.OnBuilder
import Derived.DataReads
import Derived.RegionTactic
import Derived.ChangeKeysEq
import Derived.ChangeAlike
import Derived.BigRegion
import Derived.StillTailTactics
import Derived.Shelf.Strings.Search3
import Derived.Shelf.Small.Strs
import Derived.Deep.Slices
import Derived.ChangeArms
import Derived.ProofKit
import Derived.JoinedOf
import Derived.OpenShut
import Derived.ShutString
import Derived.ChangeOld
import Derived.SizedLaws
import Derived.Test.YtbfiacnmielajaaQLabelsParsesWWords
import Derived.Test.YtbfiacnmielajaaQLabelsParsesWLast
import Derived.Test.YtbfiacnmielajaaQLabelsParsesWTab
import Derived.Test.YtbfiacnmielajaaQLabelsParsesWFour
import Derived.Test.YtbfiacnmielajaaQLabelsParsesWQPut
import Derived.Test.YtbfiacnmielajaaQLabelsParsesWApart
import Derived.Test.YtbfiacnmielajaaQLabelsParsesWArr
import Derived.Test.YtbfiacnmielajaaQLabelsParsesWZeros
import Derived.Test.YtbfiacnmielajaaQLabelsParsesWFoot
import Derived.Test.YtbfiacnmielajaaQLabelsParsesWKept
import Derived.Test.YtbfiacnmielajaaQLabelsParsesWShare
import Derived.Test.YtbfiacnmielajaaQLabelsParsesWN
import Derived.Test.YtbfiacnmielajaaQLabelsParsesWFootNe
import Derived.Test.YtbfiacnmielajaaQLabelsParsesWAt
import Derived.Test.YtbfiacnmielajaaQLabelsParsesWEqStruct
import Derived.Test.YtbfiacnmielajaaQLabelsParsesWRepsOne
import Derived.Test.YtbfiacnmielajaaQLabelsParsesWInv
import Derived.Test.YtbfiacnmielajaaQLabelsParsesWInvWords
import Derived.Test.YtbfiacnmielajaaQLabelsParsesWGuard
import Derived.Test.YtbfiacnmielajaaQLabelsParsesWNEv
import Derived.Test.YtbfiacnmielajaaQLabelsParsesWMore
import Derived.Test.YtbfiacnmielajaaRows
import Derived.Test.YtbfiacnmielajaaQLabelsParses0
namespace Go.Proofs.Ytbfiacnmielajaa.P
open Go.RowKit Go.Proofs.YtbfiacnmielajaaW.PrintWords Go.Proofs.YtbfiacnmielajaaW.PrintLast Go.Proofs.YtbfiacnmielajaaW.PrintMore
attribute [local go_sem] max2_int min2_int max_two min_two max_three min_three max_four min_four
set_option linter.unusedVariables false
set_option linter.unusedSimpArgs false
theorem R_okM {W : World} {base : Nat} {ok ok' : Nat → Prop} {v : Value} {l : List S42} (h : Kd.R k42 42 W base ok v l) (hk : ∀ k, v.ownBlock = some k → ok' k) : Kd.R k42 42 W base ok' v l :=
  ⟨hk, h.2.imp_ (fun x cs hx => by rw [k42_openM hx]; exact k42_mkM _ _ _ x)⟩
def allL : Nat → List S42 → ByteArray → Bool → Option (List S42 × ByteArray × Bool)
  | 0, _, _, _ => none
  | d + 1, o, s, bad =>
    if bad = true then some (o, s, bad) else if hp1 s 125 = true then some (o, s, bad) else
    (if o.length = 0 then some (s, bad) else labels_reader_take.f s bad ⟨#[44]⟩).bind fun t =>
    (labels_reader_name.f (t.1.size + 2) t.1 t.2).bind fun n =>
    (labels_reader_sign.f n.2.1 n.2.2).bind fun g =>
    (labels_reader_value.f g.2.1 g.2.2).bind fun v =>
    allL d (o ++ [⟨g.1, n.1, v.1⟩]) v.2.1 (if 16 < o.length + 1 then true else v.2.2)
def labels_reader_all.f (s0_0 : ByteArray) (s0_1 : Bool) : Option (List S42 × ByteArray × Bool) :=
  (labels_reader_take.f s0_0 s0_1 ⟨#[123]⟩).bind fun t => (allL 18 [] t.1 t.2).bind fun v =>
    (labels_reader_take.f v.2.1 v.2.2 ⟨#[125]⟩).bind fun u => some (v.1, u.1, u.2 || !(u.1.toList == []))
set_option maxHeartbeats 16000000 in
set_option maxRecDepth 100000 in
theorem labels_reader_all.calls (g : Nat) (s0_0 : ByteArray) (s0_1 : Bool) (r1 : List S42) (r2 : ByteArray) (r3 : Bool) (w0 w : World) (hI : IsS67 w0 w g s0_0 s0_1) (hB : Below w0.heap.size w0 w) (h : labels_reader_all.f s0_0 s0_1 = some (r1, r2, r3)) :
    Calls Try.prog 33 #[.pointer (some ⟨g, 0, none⟩)] w fun e w' => ∃ v0_ : Value, e = .returned (v0_) ∧ Kd.R k42 42 w' w.heap.size (fun _ => True) v0_ r1 ∧ IsS67 w0 w' g r2 r3 ∧ Below w0.heap.size w0 w' ∧ KeepBut w w' g none := by
  unfold labels_reader_all.f at h
  replace h := Option.bind_eq_some_iff.mp h
  obtain ⟨⟨t1, t2⟩, ht, h⟩ := h
  replace h := Option.bind_eq_some_iff.mp h
  obtain ⟨⟨v1, v2, v3⟩, hv, h⟩ := h
  replace h := Option.bind_eq_some_iff.mp h
  obtain ⟨⟨q1, q2⟩, hq, h⟩ := h
  simp only [Option.some.injEq, Prod.mk.injEq] at h
  obtain ⟨rfl, rfl, h3⟩ := h
  dsimp only at hv hq
  have H3 := Aside0.mk h3
  have HT := Aside0.mk ht
  have HV := Aside0.mk hv
  have HQ := Aside0.mk hq
  have HI0 := Aside0.mk hI
  have HB := Aside0.mk hB
  have HK := Aside0.mk (KeepBut.refl w g none)
  have HG := Aside0.mk hI.lt
  have HW0 := Aside0.mk hB.size
  have hu := Try.underlying42
  clear hI hB ht hv hq h3
  go_enter Try.func33, Try.ntmps33
  go_wp2_with (go_at_call 45; ((with_reducible refine (labels_reader_take.calls g s0_0 s0_1 ⟨#[123]⟩ t1 t2 w0 _ HI0.out HB.out HT.out).mono ?_); rintro e w1 ⟨rfl, hI, hB, hK⟩; (try (replace HO := Aside0.mk (Kd.R_keep HO.out hK (fun k (hk : w.heap.size ≤ k) => by have := HG.out; omega)))); replace HI0 := Aside0.mk hI; replace HB := Aside0.mk hB; replace HK := Aside0.mk (HK.out.trans hK (.inl rfl)); clear hI hB hK; (try clear hc0 hc1 hf0 hf1); have hc0 := cellS67_0 HI0.out.1; have hc1 := cellS67_1 HI0.out.1; have hf0 := blk_frozen HI0.out.1 0; have hf1 := blk_frozen HI0.out.1 1))
  go_loopg [3] 18 (fun gg z3 wr => ∃ (s : ByteArray) (bad : Bool) (o : List S42), Aside0 (o.length + gg = 18) ∧ Aside0 (allL gg o s bad = some (v1, v2, v3)) ∧ Aside0 (IsS67 w0 wr g s bad) ∧ Aside0 (Below w0.heap.size w0 wr) ∧ Aside0 (KeepBut w wr g none) ∧ Aside0 (Kd.R k42 42 wr w.heap.size (fun k => w.heap.size ≤ k) z3 o))
  case atStart => exact ⟨t1, t2, [], ⟨rfl⟩, HV, HI0, HB, HK, ⟨Kd.R_nil _ _ _ _ _⟩⟩
  case round =>
    clear HV HI0 HB HK HT
    obtain ⟨s, bad, o, HL, HV, HI0, HB, HK, HO⟩ := hrel
    have hc0 := cellS67_0 HI0.out.1
    have hc1 := cellS67_1 HI0.out.1
    have hf0 := blk_frozen HI0.out.1 0
    have hf1 := blk_frozen HI0.out.1 1
    have HW : Aside0 (w.heap.size ≤ wr.heap.size) := ⟨HK.out.1⟩
    obtain ⟨A3, c3, rfl, -⟩ := Kd.R_reads HO.out
    cases gk with
    | zero => exact absurd HV.out (by simp [allL])
    | succ d =>
      have h := HV.out
      simp only [allL] at h
      clear HV
      by_cases c0 : bad = true
      · rw [if_pos c0] at h
        subst c0
        simp only [Option.some.injEq, Prod.mk.injEq] at h
        obtain ⟨rfl, rfl, rfl⟩ := h
        by_cases e2 : q2 = true
        · subst e2
          go_wp2_with (first | (go_at_call 45; ((with_reducible refine (labels_reader_take.calls g s true ⟨#[125]⟩ q1 true w0 _ HI0.out HB.out HQ.out).mono ?_); rintro e w1 ⟨rfl, hI, hB, hK⟩; (try (replace HO := Aside0.mk (Kd.R_keep HO.out hK (fun k (hk : w.heap.size ≤ k) => by have := HG.out; omega)))); replace HI0 := Aside0.mk hI; replace HB := Aside0.mk hB; replace HK := Aside0.mk (HK.out.trans hK (.inl rfl)); clear hI hB hK; (try clear hc0 hc1 hf0 hf1); have hc0 := cellS67_0 HI0.out.1; have hc1 := cellS67_1 HI0.out.1; have hf0 := blk_frozen HI0.out.1 0; have hf1 := blk_frozen HI0.out.1 1)))
          go_ret
          refine ⟨_, rfl, Kd.R_mono (Kd.R_keep HO.out ((KeepBut.refl _ _ _).set_ 1 _) (fun k (hk : w.heap.size ≤ k) => by have := HG.out; omega)) (fun _ _ => trivial), ?_, below_set HB.out (IsS67.ge HI0.out), HK.out.set_ 1 _⟩
          have := HI0.out.set_1 true
          rwa [← H3.out]
        · replace e2 := Bool.eq_false_iff.2 e2
          subst e2
          cases hb_ : (q1.toList == []) with
          | true =>
            rw [hb_] at H3
            have hl_ : q1.toList = [] := by simpa using hb_
            have hl2_ : (!q1.toList.isEmpty) = false := by rw [hl_]; rfl
            clear hb_
            go_wp2_with (first | (go_at_call 45; ((with_reducible refine (labels_reader_take.calls g s true ⟨#[125]⟩ q1 false w0 _ HI0.out HB.out HQ.out).mono ?_); rintro e w1 ⟨rfl, hI, hB, hK⟩; (try (replace HO := Aside0.mk (Kd.R_keep HO.out hK (fun k (hk : w.heap.size ≤ k) => by have := HG.out; omega)))); replace HI0 := Aside0.mk hI; replace HB := Aside0.mk hB; replace HK := Aside0.mk (HK.out.trans hK (.inl rfl)); clear hI hB hK; (try clear hc0 hc1 hf0 hf1); have hc0 := cellS67_0 HI0.out.1; have hc1 := cellS67_1 HI0.out.1; have hf0 := blk_frozen HI0.out.1 0; have hf1 := blk_frozen HI0.out.1 1)))
            go_ret
            refine ⟨_, rfl, Kd.R_mono (Kd.R_keep HO.out ((KeepBut.refl _ _ _).set_ 1 _) (fun k (hk : w.heap.size ≤ k) => by have := HG.out; omega)) (fun _ _ => trivial), ?_, below_set HB.out (IsS67.ge HI0.out), HK.out.set_ 1 _⟩
            have := HI0.out.set_1 false
            rwa [← H3.out]
          | false =>
            rw [hb_] at H3
            have hl_ : ¬ q1.toList = [] := by simpa using hb_
            have hl2_ : (!q1.toList.isEmpty) = true := by simp [List.isEmpty_iff, hl_]
            clear hb_
            go_wp2_with (first | (go_at_call 45; ((with_reducible refine (labels_reader_take.calls g s true ⟨#[125]⟩ q1 false w0 _ HI0.out HB.out HQ.out).mono ?_); rintro e w1 ⟨rfl, hI, hB, hK⟩; (try (replace HO := Aside0.mk (Kd.R_keep HO.out hK (fun k (hk : w.heap.size ≤ k) => by have := HG.out; omega)))); replace HI0 := Aside0.mk hI; replace HB := Aside0.mk hB; replace HK := Aside0.mk (HK.out.trans hK (.inl rfl)); clear hI hB hK; (try clear hc0 hc1 hf0 hf1); have hc0 := cellS67_0 HI0.out.1; have hc1 := cellS67_1 HI0.out.1; have hf0 := blk_frozen HI0.out.1 0; have hf1 := blk_frozen HI0.out.1 1)))
            go_ret
            refine ⟨_, rfl, Kd.R_mono (Kd.R_keep HO.out ((KeepBut.refl _ _ _).set_ 1 _) (fun k (hk : w.heap.size ≤ k) => by have := HG.out; omega)) (fun _ _ => trivial), ?_, below_set HB.out (IsS67.ge HI0.out), HK.out.set_ 1 _⟩
            have := HI0.out.set_1 true
            rwa [← H3.out]
      rw [if_neg c0] at h
      replace c0 := Bool.eq_false_iff.2 c0
      subst c0
      by_cases c1 : hp1 s 125 = true
      · rw [if_pos c1] at h
        simp only [Option.some.injEq, Prod.mk.injEq] at h
        obtain ⟨rfl, rfl, rfl⟩ := h
        have P125 : Aside0 (strings_HasPrefix.f s ⟨#[125]⟩ = some true) := ⟨by rw [hasPrefix1]; exact congrArg some c1⟩
        clear c1
        by_cases e2 : q2 = true
        · subst e2
          go_wp2_with (first | (go_at_call 46; (with_reducible refine (strings_HasPrefix.calls s ⟨#[125]⟩ true _ P125.out).mono ?_); rintro e w' ⟨rfl, ⟨nd, rfl⟩⟩; have n0 := Aside0.mk (IsS67.drewN HI0.out nd); have n1 := Aside0.mk (keep_drewN HK.out nd); have n2 := Aside0.mk (pw_below_drewN HB.out nd); have n3 := Aside0.mk (Kd.R_keep HO.out (keep_drewN (KeepBut.refl wr g none) nd) (fun k (hk : w.heap.size ≤ k) => by have := HG.out; omega)); clear HI0 HK HB HO HW hc0 hc1 hf0 hf1; generalize World.drewN wr nd = WA at n0 n1 n2 n3 ⊢; have HI0 := n0; have HK := n1; have HB := n2; have HO := n3; clear n0 n1 n2 n3; (try clear hc0 hc1 hf0 hf1); have hc0 := cellS67_0 HI0.out.1; have hc1 := cellS67_1 HI0.out.1; have hf0 := blk_frozen HI0.out.1 0; have hf1 := blk_frozen HI0.out.1 1) | (go_at_call 45; ((with_reducible refine (labels_reader_take.calls g s false ⟨#[125]⟩ q1 true w0 _ HI0.out HB.out HQ.out).mono ?_); rintro e w1 ⟨rfl, hI, hB, hK⟩; (try (replace HO := Aside0.mk (Kd.R_keep HO.out hK (fun k (hk : w.heap.size ≤ k) => by have := HG.out; omega)))); replace HI0 := Aside0.mk hI; replace HB := Aside0.mk hB; replace HK := Aside0.mk (HK.out.trans hK (.inl rfl)); clear hI hB hK; (try clear hc0 hc1 hf0 hf1); have hc0 := cellS67_0 HI0.out.1; have hc1 := cellS67_1 HI0.out.1; have hf0 := blk_frozen HI0.out.1 0; have hf1 := blk_frozen HI0.out.1 1)))
          go_ret
          refine ⟨_, rfl, Kd.R_mono (Kd.R_keep HO.out ((KeepBut.refl _ _ _).set_ 1 _) (fun k (hk : w.heap.size ≤ k) => by have := HG.out; omega)) (fun _ _ => trivial), ?_, below_set HB.out (IsS67.ge HI0.out), HK.out.set_ 1 _⟩
          have := HI0.out.set_1 true
          rwa [← H3.out]
        · replace e2 := Bool.eq_false_iff.2 e2
          subst e2
          cases hb_ : (q1.toList == []) with
          | true =>
            rw [hb_] at H3
            have hl_ : q1.toList = [] := by simpa using hb_
            have hl2_ : (!q1.toList.isEmpty) = false := by rw [hl_]; rfl
            clear hb_
            go_wp2_with (first | (go_at_call 46; (with_reducible refine (strings_HasPrefix.calls s ⟨#[125]⟩ true _ P125.out).mono ?_); rintro e w' ⟨rfl, ⟨nd, rfl⟩⟩; have n0 := Aside0.mk (IsS67.drewN HI0.out nd); have n1 := Aside0.mk (keep_drewN HK.out nd); have n2 := Aside0.mk (pw_below_drewN HB.out nd); have n3 := Aside0.mk (Kd.R_keep HO.out (keep_drewN (KeepBut.refl wr g none) nd) (fun k (hk : w.heap.size ≤ k) => by have := HG.out; omega)); clear HI0 HK HB HO HW hc0 hc1 hf0 hf1; generalize World.drewN wr nd = WA at n0 n1 n2 n3 ⊢; have HI0 := n0; have HK := n1; have HB := n2; have HO := n3; clear n0 n1 n2 n3; (try clear hc0 hc1 hf0 hf1); have hc0 := cellS67_0 HI0.out.1; have hc1 := cellS67_1 HI0.out.1; have hf0 := blk_frozen HI0.out.1 0; have hf1 := blk_frozen HI0.out.1 1) | (go_at_call 45; ((with_reducible refine (labels_reader_take.calls g s false ⟨#[125]⟩ q1 false w0 _ HI0.out HB.out HQ.out).mono ?_); rintro e w1 ⟨rfl, hI, hB, hK⟩; (try (replace HO := Aside0.mk (Kd.R_keep HO.out hK (fun k (hk : w.heap.size ≤ k) => by have := HG.out; omega)))); replace HI0 := Aside0.mk hI; replace HB := Aside0.mk hB; replace HK := Aside0.mk (HK.out.trans hK (.inl rfl)); clear hI hB hK; (try clear hc0 hc1 hf0 hf1); have hc0 := cellS67_0 HI0.out.1; have hc1 := cellS67_1 HI0.out.1; have hf0 := blk_frozen HI0.out.1 0; have hf1 := blk_frozen HI0.out.1 1)))
            go_ret
            refine ⟨_, rfl, Kd.R_mono (Kd.R_keep HO.out ((KeepBut.refl _ _ _).set_ 1 _) (fun k (hk : w.heap.size ≤ k) => by have := HG.out; omega)) (fun _ _ => trivial), ?_, below_set HB.out (IsS67.ge HI0.out), HK.out.set_ 1 _⟩
            have := HI0.out.set_1 false
            rwa [← H3.out]
          | false =>
            rw [hb_] at H3
            have hl_ : ¬ q1.toList = [] := by simpa using hb_
            have hl2_ : (!q1.toList.isEmpty) = true := by simp [List.isEmpty_iff, hl_]
            clear hb_
            go_wp2_with (first | (go_at_call 46; (with_reducible refine (strings_HasPrefix.calls s ⟨#[125]⟩ true _ P125.out).mono ?_); rintro e w' ⟨rfl, ⟨nd, rfl⟩⟩; have n0 := Aside0.mk (IsS67.drewN HI0.out nd); have n1 := Aside0.mk (keep_drewN HK.out nd); have n2 := Aside0.mk (pw_below_drewN HB.out nd); have n3 := Aside0.mk (Kd.R_keep HO.out (keep_drewN (KeepBut.refl wr g none) nd) (fun k (hk : w.heap.size ≤ k) => by have := HG.out; omega)); clear HI0 HK HB HO HW hc0 hc1 hf0 hf1; generalize World.drewN wr nd = WA at n0 n1 n2 n3 ⊢; have HI0 := n0; have HK := n1; have HB := n2; have HO := n3; clear n0 n1 n2 n3; (try clear hc0 hc1 hf0 hf1); have hc0 := cellS67_0 HI0.out.1; have hc1 := cellS67_1 HI0.out.1; have hf0 := blk_frozen HI0.out.1 0; have hf1 := blk_frozen HI0.out.1 1) | (go_at_call 45; ((with_reducible refine (labels_reader_take.calls g s false ⟨#[125]⟩ q1 false w0 _ HI0.out HB.out HQ.out).mono ?_); rintro e w1 ⟨rfl, hI, hB, hK⟩; (try (replace HO := Aside0.mk (Kd.R_keep HO.out hK (fun k (hk : w.heap.size ≤ k) => by have := HG.out; omega)))); replace HI0 := Aside0.mk hI; replace HB := Aside0.mk hB; replace HK := Aside0.mk (HK.out.trans hK (.inl rfl)); clear hI hB hK; (try clear hc0 hc1 hf0 hf1); have hc0 := cellS67_0 HI0.out.1; have hc1 := cellS67_1 HI0.out.1; have hf0 := blk_frozen HI0.out.1 0; have hf1 := blk_frozen HI0.out.1 1)))
            go_ret
            refine ⟨_, rfl, Kd.R_mono (Kd.R_keep HO.out ((KeepBut.refl _ _ _).set_ 1 _) (fun k (hk : w.heap.size ≤ k) => by have := HG.out; omega)) (fun _ _ => trivial), ?_, below_set HB.out (IsS67.ge HI0.out), HK.out.set_ 1 _⟩
            have := HI0.out.set_1 true
            rwa [← H3.out]
      rw [if_neg c1] at h
      replace h := Option.bind_eq_some_iff.mp h
      obtain ⟨⟨t1, t2⟩, htk, h⟩ := h
      replace h := Option.bind_eq_some_iff.mp h
      obtain ⟨⟨n1, n2, n3⟩, hn, h⟩ := h
      replace h := Option.bind_eq_some_iff.mp h
      obtain ⟨⟨g1, g2, g3⟩, hs, h⟩ := h
      replace h := Option.bind_eq_some_iff.mp h
      obtain ⟨⟨x1, x2, x3⟩, hx, h⟩ := h
      dsimp only at hn hs hx h
      have HN := Aside0.mk hn
      have HS := Aside0.mk hs
      have HX := Aside0.mk hx
      have HV := Aside0.mk h
      clear hn hs hx h
      by_cases ce : o.length = 0
      · rw [if_pos ce] at htk
        simp only [Option.some.injEq, Prod.mk.injEq] at htk
        obtain ⟨rfl, rfl⟩ := htk
        have z1 : decide ((0 : Int) < (o.length : Int)) = false := decide_eq_false (by omega)
        have z2 : decide (0 < o.length) = false := decide_eq_false (by omega)
        clear ce
        have c1' := Bool.eq_false_iff.2 c1
        have P125 : Aside0 (strings_HasPrefix.f s ⟨#[125]⟩ = some false) := ⟨by rw [hasPrefix1]; exact congrArg some c1'⟩
        clear c1 c1'
        have HE : Aside0 ((o ++ [(⟨g1, n1, x1⟩ : S42)]).length = o.length + 1) := ⟨by simp⟩
        by_cases c16 : 16 < o.length + 1
        · rw [if_pos c16] at HV
          have y1 : decide (16 < o.length + 1) = true := decide_eq_true c16
          have y2 : decide ((16 : Int) < (o.length : Int) + 1) = true := decide_eq_true (by omega)
          clear c16
          go_wp2_with (first | (go_at_call 46; (with_reducible refine (strings_HasPrefix.calls s ⟨#[125]⟩ false _ P125.out).mono ?_); rintro e w' ⟨rfl, ⟨nd, rfl⟩⟩; have n0 := Aside0.mk (IsS67.drewN HI0.out nd); have n1 := Aside0.mk (keep_drewN HK.out nd); have n2 := Aside0.mk (pw_below_drewN HB.out nd); have n3 := Aside0.mk (Kd.R_keep HO.out (keep_drewN (KeepBut.refl wr g none) nd) (fun k (hk : w.heap.size ≤ k) => by have := HG.out; omega)); clear HI0 HK HB HO HW hc0 hc1 hf0 hf1; generalize World.drewN wr nd = WA at n0 n1 n2 n3 ⊢; have HI0 := n0; have HK := n1; have HB := n2; have HO := n3; clear n0 n1 n2 n3; (try clear hc0 hc1 hf0 hf1); have hc0 := cellS67_0 HI0.out.1; have hc1 := cellS67_1 HI0.out.1; have hf0 := blk_frozen HI0.out.1 0; have hf1 := blk_frozen HI0.out.1 1) | (go_at_call 47; ((with_reducible refine (labels_reader_name.calls (s.size + 2) g s false n1 n2 n3 w0 _ HI0.out HB.out HN.out).mono ?_); rintro e WN ⟨rfl, hI, hB, hK⟩; (try (replace HO := Aside0.mk (Kd.R_keep HO.out hK (fun k (hk : w.heap.size ≤ k) => by have := HG.out; omega)))); replace HI0 := Aside0.mk hI; replace HB := Aside0.mk hB; replace HK := Aside0.mk (HK.out.trans hK (.inl rfl)); clear hI hB hK; (try clear hc0 hc1 hf0 hf1); have hc0 := cellS67_0 HI0.out.1; have hc1 := cellS67_1 HI0.out.1; have hf0 := blk_frozen HI0.out.1 0; have hf1 := blk_frozen HI0.out.1 1; have hne : Aside0 (WN.heap.size ≠ g) := ⟨by have := HI0.out.lt; omega⟩; have hwn : Aside0 (w.heap.size ≤ WN.heap.size) := ⟨HK.out.1⟩; have hgn := Aside0.mk HI0.out.lt; replace HO := Aside0.mk (R_okM (ok' := fun k => w.heap.size ≤ k ∧ k < WN.heap.size) HO.out (fun k hk => ⟨HO.out.1 k hk, Kd.R_lt HO.out k hk⟩)))) | (go_at_call 48; ((with_reducible refine (labels_reader_sign.calls g n2 n3 g1 g2 g3 w0 _ (HI0.out.alloc (.cells #[.int .i64 0, .string n1, .string (⟨#[]⟩ : ByteArray)] 42)) (below_alloc HB.out (.cells #[.int .i64 0, .string n1, .string (⟨#[]⟩ : ByteArray)] 42)) HS.out).mono ?_); rintro e WS ⟨rfl, hI, hB, hK⟩; have BX := Aside0.mk (hK.blk (show (WN.alloc (.cells #[.int .i64 0, .string n1, .string (⟨#[]⟩ : ByteArray)] 42)).heap[WN.heap.size]? = some (.cells #[.int .i64 0, .string n1, .string (⟨#[]⟩ : ByteArray)] 42 (0, 0)) from by simpa using heap_alloc_new WN _) hne.out (by simp)); replace HO := Aside0.mk (Kd.R_keep (Kd.R_alloc HO.out (.cells #[.int .i64 0, .string n1, .string (⟨#[]⟩ : ByteArray)] 42)) hK (fun k (hk : w.heap.size ≤ k ∧ k < WN.heap.size) => by have := HG.out; omega)); replace HK := Aside0.mk ((keep_alloc HK.out (.cells #[.int .i64 0, .string n1, .string (⟨#[]⟩ : ByteArray)] 42)).trans hK (.inl rfl)); replace HI0 := Aside0.mk hI; replace HB := Aside0.mk hB; clear hI hB hK; (try clear hc0 hc1 hf0 hf1); have hc0 := cellS67_0 HI0.out.1; have hc1 := cellS67_1 HI0.out.1; have hf0 := blk_frozen HI0.out.1 0; have hf1 := blk_frozen HI0.out.1 1; have hb0 := blk_cell BX.out 0; have hb1 := blk_cell BX.out 1; have hb2 := blk_cell BX.out 2; have hbf0 := blk_frozen BX.out 0; have hbf2 := blk_frozen BX.out 2)) | (go_at_call 49; ((with_reducible refine (labels_reader_value.calls g g2 g3 x1 x2 x3 w0 _ (HI0.out.far (p := ⟨WN.heap.size, 0, none⟩) (Ne.symm hne.out) (.int .i64 g1)) (below_set (j := 0) (v := .int .i64 g1) HB.out (Nat.le_trans HW0.out hwn.out)) HX.out).mono ?_); rintro e WV ⟨rfl, hI, hB, hK⟩; replace BX : Aside0 (WV.heap[WN.heap.size]? = some (.cells #[.int .i64 g1, .string n1, .string (⟨#[]⟩ : ByteArray)] 42 (0, 0))) := ⟨hK.blk (by simpa using blk_set BX.out 0 (.int .i64 g1)) hne.out (by simp)⟩; replace HO := Aside0.mk (Kd.R_keep (Kd.R_keep HO.out ((KeepBut.refl WS WN.heap.size none).set_ 0 (.int .i64 g1)) (fun k (hk : w.heap.size ≤ k ∧ k < WN.heap.size) => by omega)) hK (fun k (hk : w.heap.size ≤ k ∧ k < WN.heap.size) => by have := HG.out; omega)); replace HK := Aside0.mk ((keep_far HK.out (p := ⟨WN.heap.size, 0, none⟩) hwn.out (.int .i64 g1)).trans hK (.inl rfl)); replace HI0 := Aside0.mk hI; replace HB := Aside0.mk hB; clear hI hB hK hb0 hb1 hb2 hbf0 hbf2; (try clear hc0 hc1 hf0 hf1); have hc0 := cellS67_0 HI0.out.1; have hc1 := cellS67_1 HI0.out.1; have hf0 := blk_frozen HI0.out.1 0; have hf1 := blk_frozen HI0.out.1 1; have hb0 := blk_cell BX.out 0; have hb1 := blk_cell BX.out 1; have hb2 := blk_cell BX.out 2; have hbf2 := blk_frozen BX.out 2)) | ((with_reducible refine gate_builtin (b := .append) (xs := #[.tmp 34, .tmp 36]) rfl ?_); at_builtin; (refine Kd.R_append k42 (w0 := (WV.setCell ⟨WN.heap.size, 2, none⟩ (.string x1))) w.heap.size rfl (.tmp 34) (.tmp 36) 37 42 (.agg #[.int .i64 0, .string ⟨#[]⟩, .string ⟨#[]⟩]) 40 rfl Try.underlying37 info42 rfl (by decide) (by omega) (.slice A3 o.length c3) o ⟨g1, n1, x1⟩ [.int .i64 g1, .string n1, .string x1] (fun k => w.heap.size ≤ k) (fun _ => False) rfl (by first | rfl | (go_simp; done) | (simp [World.setCell]; done)) ?aP (fun _ hk => hk.elim) ?aF ?aO ?aB ?aS ?aL ?_; (case aP => exact k42_mkM _ _ _ _); (case aB => exact Below.refl _ _); (case aF => exact (fun k hk => Nat.le_trans (keep_size (w := w) (g := g) (row := none) (keep_far HK.out (p := ⟨WN.heap.size, 2, none⟩) hwn.out _)) hk)); (case aO => exact R_okM (Kd.R_keep HO.out ((KeepBut.refl WV WN.heap.size none).set_ 2 _) (fun k (hk : w.heap.size ≤ k ∧ k < WN.heap.size) => by omega)) (fun k hk => (HO.out.1 k hk).1)); (case aS => exact keep_size (w := w) (g := g) (row := none) (keep_far HK.out (p := ⟨WN.heap.size, 2, none⟩) hwn.out _)); (case aL => have := HL.out; omega); intro z4 w5 ho hb hg hat; have HI1 := Aside0.mk (IsS67.grown (HI0.out.far (p := ⟨WN.heap.size, 2, none⟩) (Ne.symm hne.out) (.string x1)) hg (fun e => by have := (HO.out.1 _ e.symm).1; have := HG.out; omega)); replace HK := Aside0.mk (KeepBut.trans (keep_far HK.out (p := ⟨WN.heap.size, 2, none⟩) hwn.out (.string x1)) (KeepBut.of_grown hg g) (by cases hq_ : (Value.slice A3 o.length c3).ownBlock with | none => exact .inl rfl | some q_ => exact .inr ⟨q_, rfl, (HO.out.1 _ hq_).1⟩)); replace HB := Aside0.mk ((below_set (j := 2) (v := .string x1) HB.out (Nat.le_trans HW0.out hwn.out)).trans (hb.mono HW0.out)); replace HO := Aside0.mk ho; replace HI0 := HI1; obtain ⟨A_, c_, rfl, -⟩ := Kd.R_reads ho; clear ho hb hg hat HI1 hb0 hb1 hb2 hbf2; (try clear hc0 hc1 hf0 hf1); have hc0 := cellS67_0 HI0.out.1; have hc1 := cellS67_1 HI0.out.1; have hf0 := blk_frozen HI0.out.1 0; have hf1 := blk_frozen HI0.out.1 1)))
          go_roundg d
          case measure => omega
          case rel =>
            have ho := HO.out
            rw [HE.out] at ho
            exact ⟨x2, true, _, ⟨by have := HL.out; rw [HE.out]; omega⟩, HV, ⟨HI0.out.set_1 true⟩, ⟨below_set HB.out (IsS67.ge HI0.out)⟩, ⟨HK.out.set_ 1 _⟩, ⟨Kd.R_keep ho ((KeepBut.refl _ _ _).set_ 1 _) (fun k (hk : w.heap.size ≤ k) => by have := HG.out; omega)⟩⟩
        · rw [if_neg c16] at HV
          have y1 : decide (16 < o.length + 1) = false := decide_eq_false c16
          have y2 : decide ((16 : Int) < (o.length : Int) + 1) = false := decide_eq_false (by omega)
          clear c16
          go_wp2_with (first | (go_at_call 46; (with_reducible refine (strings_HasPrefix.calls s ⟨#[125]⟩ false _ P125.out).mono ?_); rintro e w' ⟨rfl, ⟨nd, rfl⟩⟩; have n0 := Aside0.mk (IsS67.drewN HI0.out nd); have n1 := Aside0.mk (keep_drewN HK.out nd); have n2 := Aside0.mk (pw_below_drewN HB.out nd); have n3 := Aside0.mk (Kd.R_keep HO.out (keep_drewN (KeepBut.refl wr g none) nd) (fun k (hk : w.heap.size ≤ k) => by have := HG.out; omega)); clear HI0 HK HB HO HW hc0 hc1 hf0 hf1; generalize World.drewN wr nd = WA at n0 n1 n2 n3 ⊢; have HI0 := n0; have HK := n1; have HB := n2; have HO := n3; clear n0 n1 n2 n3; (try clear hc0 hc1 hf0 hf1); have hc0 := cellS67_0 HI0.out.1; have hc1 := cellS67_1 HI0.out.1; have hf0 := blk_frozen HI0.out.1 0; have hf1 := blk_frozen HI0.out.1 1) | (go_at_call 47; ((with_reducible refine (labels_reader_name.calls (s.size + 2) g s false n1 n2 n3 w0 _ HI0.out HB.out HN.out).mono ?_); rintro e WN ⟨rfl, hI, hB, hK⟩; (try (replace HO := Aside0.mk (Kd.R_keep HO.out hK (fun k (hk : w.heap.size ≤ k) => by have := HG.out; omega)))); replace HI0 := Aside0.mk hI; replace HB := Aside0.mk hB; replace HK := Aside0.mk (HK.out.trans hK (.inl rfl)); clear hI hB hK; (try clear hc0 hc1 hf0 hf1); have hc0 := cellS67_0 HI0.out.1; have hc1 := cellS67_1 HI0.out.1; have hf0 := blk_frozen HI0.out.1 0; have hf1 := blk_frozen HI0.out.1 1; have hne : Aside0 (WN.heap.size ≠ g) := ⟨by have := HI0.out.lt; omega⟩; have hwn : Aside0 (w.heap.size ≤ WN.heap.size) := ⟨HK.out.1⟩; have hgn := Aside0.mk HI0.out.lt; replace HO := Aside0.mk (R_okM (ok' := fun k => w.heap.size ≤ k ∧ k < WN.heap.size) HO.out (fun k hk => ⟨HO.out.1 k hk, Kd.R_lt HO.out k hk⟩)))) | (go_at_call 48; ((with_reducible refine (labels_reader_sign.calls g n2 n3 g1 g2 g3 w0 _ (HI0.out.alloc (.cells #[.int .i64 0, .string n1, .string (⟨#[]⟩ : ByteArray)] 42)) (below_alloc HB.out (.cells #[.int .i64 0, .string n1, .string (⟨#[]⟩ : ByteArray)] 42)) HS.out).mono ?_); rintro e WS ⟨rfl, hI, hB, hK⟩; have BX := Aside0.mk (hK.blk (show (WN.alloc (.cells #[.int .i64 0, .string n1, .string (⟨#[]⟩ : ByteArray)] 42)).heap[WN.heap.size]? = some (.cells #[.int .i64 0, .string n1, .string (⟨#[]⟩ : ByteArray)] 42 (0, 0)) from by simpa using heap_alloc_new WN _) hne.out (by simp)); replace HO := Aside0.mk (Kd.R_keep (Kd.R_alloc HO.out (.cells #[.int .i64 0, .string n1, .string (⟨#[]⟩ : ByteArray)] 42)) hK (fun k (hk : w.heap.size ≤ k ∧ k < WN.heap.size) => by have := HG.out; omega)); replace HK := Aside0.mk ((keep_alloc HK.out (.cells #[.int .i64 0, .string n1, .string (⟨#[]⟩ : ByteArray)] 42)).trans hK (.inl rfl)); replace HI0 := Aside0.mk hI; replace HB := Aside0.mk hB; clear hI hB hK; (try clear hc0 hc1 hf0 hf1); have hc0 := cellS67_0 HI0.out.1; have hc1 := cellS67_1 HI0.out.1; have hf0 := blk_frozen HI0.out.1 0; have hf1 := blk_frozen HI0.out.1 1; have hb0 := blk_cell BX.out 0; have hb1 := blk_cell BX.out 1; have hb2 := blk_cell BX.out 2; have hbf0 := blk_frozen BX.out 0; have hbf2 := blk_frozen BX.out 2)) | (go_at_call 49; ((with_reducible refine (labels_reader_value.calls g g2 g3 x1 x2 x3 w0 _ (HI0.out.far (p := ⟨WN.heap.size, 0, none⟩) (Ne.symm hne.out) (.int .i64 g1)) (below_set (j := 0) (v := .int .i64 g1) HB.out (Nat.le_trans HW0.out hwn.out)) HX.out).mono ?_); rintro e WV ⟨rfl, hI, hB, hK⟩; replace BX : Aside0 (WV.heap[WN.heap.size]? = some (.cells #[.int .i64 g1, .string n1, .string (⟨#[]⟩ : ByteArray)] 42 (0, 0))) := ⟨hK.blk (by simpa using blk_set BX.out 0 (.int .i64 g1)) hne.out (by simp)⟩; replace HO := Aside0.mk (Kd.R_keep (Kd.R_keep HO.out ((KeepBut.refl WS WN.heap.size none).set_ 0 (.int .i64 g1)) (fun k (hk : w.heap.size ≤ k ∧ k < WN.heap.size) => by omega)) hK (fun k (hk : w.heap.size ≤ k ∧ k < WN.heap.size) => by have := HG.out; omega)); replace HK := Aside0.mk ((keep_far HK.out (p := ⟨WN.heap.size, 0, none⟩) hwn.out (.int .i64 g1)).trans hK (.inl rfl)); replace HI0 := Aside0.mk hI; replace HB := Aside0.mk hB; clear hI hB hK hb0 hb1 hb2 hbf0 hbf2; (try clear hc0 hc1 hf0 hf1); have hc0 := cellS67_0 HI0.out.1; have hc1 := cellS67_1 HI0.out.1; have hf0 := blk_frozen HI0.out.1 0; have hf1 := blk_frozen HI0.out.1 1; have hb0 := blk_cell BX.out 0; have hb1 := blk_cell BX.out 1; have hb2 := blk_cell BX.out 2; have hbf2 := blk_frozen BX.out 2)) | ((with_reducible refine gate_builtin (b := .append) (xs := #[.tmp 34, .tmp 36]) rfl ?_); at_builtin; (refine Kd.R_append k42 (w0 := (WV.setCell ⟨WN.heap.size, 2, none⟩ (.string x1))) w.heap.size rfl (.tmp 34) (.tmp 36) 37 42 (.agg #[.int .i64 0, .string ⟨#[]⟩, .string ⟨#[]⟩]) 40 rfl Try.underlying37 info42 rfl (by decide) (by omega) (.slice A3 o.length c3) o ⟨g1, n1, x1⟩ [.int .i64 g1, .string n1, .string x1] (fun k => w.heap.size ≤ k) (fun _ => False) rfl (by first | rfl | (go_simp; done) | (simp [World.setCell]; done)) ?aP (fun _ hk => hk.elim) ?aF ?aO ?aB ?aS ?aL ?_; (case aP => exact k42_mkM _ _ _ _); (case aB => exact Below.refl _ _); (case aF => exact (fun k hk => Nat.le_trans (keep_size (w := w) (g := g) (row := none) (keep_far HK.out (p := ⟨WN.heap.size, 2, none⟩) hwn.out _)) hk)); (case aO => exact R_okM (Kd.R_keep HO.out ((KeepBut.refl WV WN.heap.size none).set_ 2 _) (fun k (hk : w.heap.size ≤ k ∧ k < WN.heap.size) => by omega)) (fun k hk => (HO.out.1 k hk).1)); (case aS => exact keep_size (w := w) (g := g) (row := none) (keep_far HK.out (p := ⟨WN.heap.size, 2, none⟩) hwn.out _)); (case aL => have := HL.out; omega); intro z4 w5 ho hb hg hat; have HI1 := Aside0.mk (IsS67.grown (HI0.out.far (p := ⟨WN.heap.size, 2, none⟩) (Ne.symm hne.out) (.string x1)) hg (fun e => by have := (HO.out.1 _ e.symm).1; have := HG.out; omega)); replace HK := Aside0.mk (KeepBut.trans (keep_far HK.out (p := ⟨WN.heap.size, 2, none⟩) hwn.out (.string x1)) (KeepBut.of_grown hg g) (by cases hq_ : (Value.slice A3 o.length c3).ownBlock with | none => exact .inl rfl | some q_ => exact .inr ⟨q_, rfl, (HO.out.1 _ hq_).1⟩)); replace HB := Aside0.mk ((below_set (j := 2) (v := .string x1) HB.out (Nat.le_trans HW0.out hwn.out)).trans (hb.mono HW0.out)); replace HO := Aside0.mk ho; replace HI0 := HI1; obtain ⟨A_, c_, rfl, -⟩ := Kd.R_reads ho; clear ho hb hg hat HI1 hb0 hb1 hb2 hbf2; (try clear hc0 hc1 hf0 hf1); have hc0 := cellS67_0 HI0.out.1; have hc1 := cellS67_1 HI0.out.1; have hf0 := blk_frozen HI0.out.1 0; have hf1 := blk_frozen HI0.out.1 1)))
          go_roundg d
          case measure => omega
          case rel =>
            have ho := HO.out
            rw [HE.out] at ho
            exact ⟨x2, x3, _, ⟨by have := HL.out; rw [HE.out]; omega⟩, HV, HI0, HB, HK, ⟨ho⟩⟩
      · rw [if_neg ce] at htk
        have HTK := Aside0.mk htk
        clear htk
        have z1 : decide ((0 : Int) < (o.length : Int)) = true := decide_eq_true (by omega)
        have z2 : decide (0 < o.length) = true := decide_eq_true (by omega)
        clear ce
        have c1' := Bool.eq_false_iff.2 c1
        have P125 : Aside0 (strings_HasPrefix.f s ⟨#[125]⟩ = some false) := ⟨by rw [hasPrefix1]; exact congrArg some c1'⟩
        clear c1 c1'
        have HE : Aside0 ((o ++ [(⟨g1, n1, x1⟩ : S42)]).length = o.length + 1) := ⟨by simp⟩
        by_cases c16 : 16 < o.length + 1
        · rw [if_pos c16] at HV
          have y1 : decide (16 < o.length + 1) = true := decide_eq_true c16
          have y2 : decide ((16 : Int) < (o.length : Int) + 1) = true := decide_eq_true (by omega)
          clear c16
          go_wp2_with (first | (go_at_call 46; (with_reducible refine (strings_HasPrefix.calls s ⟨#[125]⟩ false _ P125.out).mono ?_); rintro e w' ⟨rfl, ⟨nd, rfl⟩⟩; have n0 := Aside0.mk (IsS67.drewN HI0.out nd); have n1 := Aside0.mk (keep_drewN HK.out nd); have n2 := Aside0.mk (pw_below_drewN HB.out nd); have n3 := Aside0.mk (Kd.R_keep HO.out (keep_drewN (KeepBut.refl wr g none) nd) (fun k (hk : w.heap.size ≤ k) => by have := HG.out; omega)); clear HI0 HK HB HO HW hc0 hc1 hf0 hf1; generalize World.drewN wr nd = WA at n0 n1 n2 n3 ⊢; have HI0 := n0; have HK := n1; have HB := n2; have HO := n3; clear n0 n1 n2 n3; (try clear hc0 hc1 hf0 hf1); have hc0 := cellS67_0 HI0.out.1; have hc1 := cellS67_1 HI0.out.1; have hf0 := blk_frozen HI0.out.1 0; have hf1 := blk_frozen HI0.out.1 1) | (go_at_call 45; ((with_reducible refine (labels_reader_take.calls g s false ⟨#[44]⟩ t1 t2 w0 _ HI0.out HB.out HTK.out).mono ?_); rintro e w1 ⟨rfl, hI, hB, hK⟩; (try (replace HO := Aside0.mk (Kd.R_keep HO.out hK (fun k (hk : w.heap.size ≤ k) => by have := HG.out; omega)))); replace HI0 := Aside0.mk hI; replace HB := Aside0.mk hB; replace HK := Aside0.mk (HK.out.trans hK (.inl rfl)); clear hI hB hK; (try clear hc0 hc1 hf0 hf1); have hc0 := cellS67_0 HI0.out.1; have hc1 := cellS67_1 HI0.out.1; have hf0 := blk_frozen HI0.out.1 0; have hf1 := blk_frozen HI0.out.1 1)) | (go_at_call 47; ((with_reducible refine (labels_reader_name.calls (t1.size + 2) g t1 t2 n1 n2 n3 w0 _ HI0.out HB.out HN.out).mono ?_); rintro e WN ⟨rfl, hI, hB, hK⟩; (try (replace HO := Aside0.mk (Kd.R_keep HO.out hK (fun k (hk : w.heap.size ≤ k) => by have := HG.out; omega)))); replace HI0 := Aside0.mk hI; replace HB := Aside0.mk hB; replace HK := Aside0.mk (HK.out.trans hK (.inl rfl)); clear hI hB hK; (try clear hc0 hc1 hf0 hf1); have hc0 := cellS67_0 HI0.out.1; have hc1 := cellS67_1 HI0.out.1; have hf0 := blk_frozen HI0.out.1 0; have hf1 := blk_frozen HI0.out.1 1; have hne : Aside0 (WN.heap.size ≠ g) := ⟨by have := HI0.out.lt; omega⟩; have hwn : Aside0 (w.heap.size ≤ WN.heap.size) := ⟨HK.out.1⟩; have hgn := Aside0.mk HI0.out.lt; replace HO := Aside0.mk (R_okM (ok' := fun k => w.heap.size ≤ k ∧ k < WN.heap.size) HO.out (fun k hk => ⟨HO.out.1 k hk, Kd.R_lt HO.out k hk⟩)))) | (go_at_call 48; ((with_reducible refine (labels_reader_sign.calls g n2 n3 g1 g2 g3 w0 _ (HI0.out.alloc (.cells #[.int .i64 0, .string n1, .string (⟨#[]⟩ : ByteArray)] 42)) (below_alloc HB.out (.cells #[.int .i64 0, .string n1, .string (⟨#[]⟩ : ByteArray)] 42)) HS.out).mono ?_); rintro e WS ⟨rfl, hI, hB, hK⟩; have BX := Aside0.mk (hK.blk (show (WN.alloc (.cells #[.int .i64 0, .string n1, .string (⟨#[]⟩ : ByteArray)] 42)).heap[WN.heap.size]? = some (.cells #[.int .i64 0, .string n1, .string (⟨#[]⟩ : ByteArray)] 42 (0, 0)) from by simpa using heap_alloc_new WN _) hne.out (by simp)); replace HO := Aside0.mk (Kd.R_keep (Kd.R_alloc HO.out (.cells #[.int .i64 0, .string n1, .string (⟨#[]⟩ : ByteArray)] 42)) hK (fun k (hk : w.heap.size ≤ k ∧ k < WN.heap.size) => by have := HG.out; omega)); replace HK := Aside0.mk ((keep_alloc HK.out (.cells #[.int .i64 0, .string n1, .string (⟨#[]⟩ : ByteArray)] 42)).trans hK (.inl rfl)); replace HI0 := Aside0.mk hI; replace HB := Aside0.mk hB; clear hI hB hK; (try clear hc0 hc1 hf0 hf1); have hc0 := cellS67_0 HI0.out.1; have hc1 := cellS67_1 HI0.out.1; have hf0 := blk_frozen HI0.out.1 0; have hf1 := blk_frozen HI0.out.1 1; have hb0 := blk_cell BX.out 0; have hb1 := blk_cell BX.out 1; have hb2 := blk_cell BX.out 2; have hbf0 := blk_frozen BX.out 0; have hbf2 := blk_frozen BX.out 2)) | (go_at_call 49; ((with_reducible refine (labels_reader_value.calls g g2 g3 x1 x2 x3 w0 _ (HI0.out.far (p := ⟨WN.heap.size, 0, none⟩) (Ne.symm hne.out) (.int .i64 g1)) (below_set (j := 0) (v := .int .i64 g1) HB.out (Nat.le_trans HW0.out hwn.out)) HX.out).mono ?_); rintro e WV ⟨rfl, hI, hB, hK⟩; replace BX : Aside0 (WV.heap[WN.heap.size]? = some (.cells #[.int .i64 g1, .string n1, .string (⟨#[]⟩ : ByteArray)] 42 (0, 0))) := ⟨hK.blk (by simpa using blk_set BX.out 0 (.int .i64 g1)) hne.out (by simp)⟩; replace HO := Aside0.mk (Kd.R_keep (Kd.R_keep HO.out ((KeepBut.refl WS WN.heap.size none).set_ 0 (.int .i64 g1)) (fun k (hk : w.heap.size ≤ k ∧ k < WN.heap.size) => by omega)) hK (fun k (hk : w.heap.size ≤ k ∧ k < WN.heap.size) => by have := HG.out; omega)); replace HK := Aside0.mk ((keep_far HK.out (p := ⟨WN.heap.size, 0, none⟩) hwn.out (.int .i64 g1)).trans hK (.inl rfl)); replace HI0 := Aside0.mk hI; replace HB := Aside0.mk hB; clear hI hB hK hb0 hb1 hb2 hbf0 hbf2; (try clear hc0 hc1 hf0 hf1); have hc0 := cellS67_0 HI0.out.1; have hc1 := cellS67_1 HI0.out.1; have hf0 := blk_frozen HI0.out.1 0; have hf1 := blk_frozen HI0.out.1 1; have hb0 := blk_cell BX.out 0; have hb1 := blk_cell BX.out 1; have hb2 := blk_cell BX.out 2; have hbf2 := blk_frozen BX.out 2)) | ((with_reducible refine gate_builtin (b := .append) (xs := #[.tmp 34, .tmp 36]) rfl ?_); at_builtin; (refine Kd.R_append k42 (w0 := (WV.setCell ⟨WN.heap.size, 2, none⟩ (.string x1))) w.heap.size rfl (.tmp 34) (.tmp 36) 37 42 (.agg #[.int .i64 0, .string ⟨#[]⟩, .string ⟨#[]⟩]) 40 rfl Try.underlying37 info42 rfl (by decide) (by omega) (.slice A3 o.length c3) o ⟨g1, n1, x1⟩ [.int .i64 g1, .string n1, .string x1] (fun k => w.heap.size ≤ k) (fun _ => False) rfl (by first | rfl | (go_simp; done) | (simp [World.setCell]; done)) ?aP (fun _ hk => hk.elim) ?aF ?aO ?aB ?aS ?aL ?_; (case aP => exact k42_mkM _ _ _ _); (case aB => exact Below.refl _ _); (case aF => exact (fun k hk => Nat.le_trans (keep_size (w := w) (g := g) (row := none) (keep_far HK.out (p := ⟨WN.heap.size, 2, none⟩) hwn.out _)) hk)); (case aO => exact R_okM (Kd.R_keep HO.out ((KeepBut.refl WV WN.heap.size none).set_ 2 _) (fun k (hk : w.heap.size ≤ k ∧ k < WN.heap.size) => by omega)) (fun k hk => (HO.out.1 k hk).1)); (case aS => exact keep_size (w := w) (g := g) (row := none) (keep_far HK.out (p := ⟨WN.heap.size, 2, none⟩) hwn.out _)); (case aL => have := HL.out; omega); intro z4 w5 ho hb hg hat; have HI1 := Aside0.mk (IsS67.grown (HI0.out.far (p := ⟨WN.heap.size, 2, none⟩) (Ne.symm hne.out) (.string x1)) hg (fun e => by have := (HO.out.1 _ e.symm).1; have := HG.out; omega)); replace HK := Aside0.mk (KeepBut.trans (keep_far HK.out (p := ⟨WN.heap.size, 2, none⟩) hwn.out (.string x1)) (KeepBut.of_grown hg g) (by cases hq_ : (Value.slice A3 o.length c3).ownBlock with | none => exact .inl rfl | some q_ => exact .inr ⟨q_, rfl, (HO.out.1 _ hq_).1⟩)); replace HB := Aside0.mk ((below_set (j := 2) (v := .string x1) HB.out (Nat.le_trans HW0.out hwn.out)).trans (hb.mono HW0.out)); replace HO := Aside0.mk ho; replace HI0 := HI1; obtain ⟨A_, c_, rfl, -⟩ := Kd.R_reads ho; clear ho hb hg hat HI1 hb0 hb1 hb2 hbf2; (try clear hc0 hc1 hf0 hf1); have hc0 := cellS67_0 HI0.out.1; have hc1 := cellS67_1 HI0.out.1; have hf0 := blk_frozen HI0.out.1 0; have hf1 := blk_frozen HI0.out.1 1)))
          go_roundg d
          case measure => omega
          case rel =>
            have ho := HO.out
            rw [HE.out] at ho
            exact ⟨x2, true, _, ⟨by have := HL.out; rw [HE.out]; omega⟩, HV, ⟨HI0.out.set_1 true⟩, ⟨below_set HB.out (IsS67.ge HI0.out)⟩, ⟨HK.out.set_ 1 _⟩, ⟨Kd.R_keep ho ((KeepBut.refl _ _ _).set_ 1 _) (fun k (hk : w.heap.size ≤ k) => by have := HG.out; omega)⟩⟩
        · rw [if_neg c16] at HV
          have y1 : decide (16 < o.length + 1) = false := decide_eq_false c16
          have y2 : decide ((16 : Int) < (o.length : Int) + 1) = false := decide_eq_false (by omega)
          clear c16
          go_wp2_with (first | (go_at_call 46; (with_reducible refine (strings_HasPrefix.calls s ⟨#[125]⟩ false _ P125.out).mono ?_); rintro e w' ⟨rfl, ⟨nd, rfl⟩⟩; have n0 := Aside0.mk (IsS67.drewN HI0.out nd); have n1 := Aside0.mk (keep_drewN HK.out nd); have n2 := Aside0.mk (pw_below_drewN HB.out nd); have n3 := Aside0.mk (Kd.R_keep HO.out (keep_drewN (KeepBut.refl wr g none) nd) (fun k (hk : w.heap.size ≤ k) => by have := HG.out; omega)); clear HI0 HK HB HO HW hc0 hc1 hf0 hf1; generalize World.drewN wr nd = WA at n0 n1 n2 n3 ⊢; have HI0 := n0; have HK := n1; have HB := n2; have HO := n3; clear n0 n1 n2 n3; (try clear hc0 hc1 hf0 hf1); have hc0 := cellS67_0 HI0.out.1; have hc1 := cellS67_1 HI0.out.1; have hf0 := blk_frozen HI0.out.1 0; have hf1 := blk_frozen HI0.out.1 1) | (go_at_call 45; ((with_reducible refine (labels_reader_take.calls g s false ⟨#[44]⟩ t1 t2 w0 _ HI0.out HB.out HTK.out).mono ?_); rintro e w1 ⟨rfl, hI, hB, hK⟩; (try (replace HO := Aside0.mk (Kd.R_keep HO.out hK (fun k (hk : w.heap.size ≤ k) => by have := HG.out; omega)))); replace HI0 := Aside0.mk hI; replace HB := Aside0.mk hB; replace HK := Aside0.mk (HK.out.trans hK (.inl rfl)); clear hI hB hK; (try clear hc0 hc1 hf0 hf1); have hc0 := cellS67_0 HI0.out.1; have hc1 := cellS67_1 HI0.out.1; have hf0 := blk_frozen HI0.out.1 0; have hf1 := blk_frozen HI0.out.1 1)) | (go_at_call 47; ((with_reducible refine (labels_reader_name.calls (t1.size + 2) g t1 t2 n1 n2 n3 w0 _ HI0.out HB.out HN.out).mono ?_); rintro e WN ⟨rfl, hI, hB, hK⟩; (try (replace HO := Aside0.mk (Kd.R_keep HO.out hK (fun k (hk : w.heap.size ≤ k) => by have := HG.out; omega)))); replace HI0 := Aside0.mk hI; replace HB := Aside0.mk hB; replace HK := Aside0.mk (HK.out.trans hK (.inl rfl)); clear hI hB hK; (try clear hc0 hc1 hf0 hf1); have hc0 := cellS67_0 HI0.out.1; have hc1 := cellS67_1 HI0.out.1; have hf0 := blk_frozen HI0.out.1 0; have hf1 := blk_frozen HI0.out.1 1; have hne : Aside0 (WN.heap.size ≠ g) := ⟨by have := HI0.out.lt; omega⟩; have hwn : Aside0 (w.heap.size ≤ WN.heap.size) := ⟨HK.out.1⟩; have hgn := Aside0.mk HI0.out.lt; replace HO := Aside0.mk (R_okM (ok' := fun k => w.heap.size ≤ k ∧ k < WN.heap.size) HO.out (fun k hk => ⟨HO.out.1 k hk, Kd.R_lt HO.out k hk⟩)))) | (go_at_call 48; ((with_reducible refine (labels_reader_sign.calls g n2 n3 g1 g2 g3 w0 _ (HI0.out.alloc (.cells #[.int .i64 0, .string n1, .string (⟨#[]⟩ : ByteArray)] 42)) (below_alloc HB.out (.cells #[.int .i64 0, .string n1, .string (⟨#[]⟩ : ByteArray)] 42)) HS.out).mono ?_); rintro e WS ⟨rfl, hI, hB, hK⟩; have BX := Aside0.mk (hK.blk (show (WN.alloc (.cells #[.int .i64 0, .string n1, .string (⟨#[]⟩ : ByteArray)] 42)).heap[WN.heap.size]? = some (.cells #[.int .i64 0, .string n1, .string (⟨#[]⟩ : ByteArray)] 42 (0, 0)) from by simpa using heap_alloc_new WN _) hne.out (by simp)); replace HO := Aside0.mk (Kd.R_keep (Kd.R_alloc HO.out (.cells #[.int .i64 0, .string n1, .string (⟨#[]⟩ : ByteArray)] 42)) hK (fun k (hk : w.heap.size ≤ k ∧ k < WN.heap.size) => by have := HG.out; omega)); replace HK := Aside0.mk ((keep_alloc HK.out (.cells #[.int .i64 0, .string n1, .string (⟨#[]⟩ : ByteArray)] 42)).trans hK (.inl rfl)); replace HI0 := Aside0.mk hI; replace HB := Aside0.mk hB; clear hI hB hK; (try clear hc0 hc1 hf0 hf1); have hc0 := cellS67_0 HI0.out.1; have hc1 := cellS67_1 HI0.out.1; have hf0 := blk_frozen HI0.out.1 0; have hf1 := blk_frozen HI0.out.1 1; have hb0 := blk_cell BX.out 0; have hb1 := blk_cell BX.out 1; have hb2 := blk_cell BX.out 2; have hbf0 := blk_frozen BX.out 0; have hbf2 := blk_frozen BX.out 2)) | (go_at_call 49; ((with_reducible refine (labels_reader_value.calls g g2 g3 x1 x2 x3 w0 _ (HI0.out.far (p := ⟨WN.heap.size, 0, none⟩) (Ne.symm hne.out) (.int .i64 g1)) (below_set (j := 0) (v := .int .i64 g1) HB.out (Nat.le_trans HW0.out hwn.out)) HX.out).mono ?_); rintro e WV ⟨rfl, hI, hB, hK⟩; replace BX : Aside0 (WV.heap[WN.heap.size]? = some (.cells #[.int .i64 g1, .string n1, .string (⟨#[]⟩ : ByteArray)] 42 (0, 0))) := ⟨hK.blk (by simpa using blk_set BX.out 0 (.int .i64 g1)) hne.out (by simp)⟩; replace HO := Aside0.mk (Kd.R_keep (Kd.R_keep HO.out ((KeepBut.refl WS WN.heap.size none).set_ 0 (.int .i64 g1)) (fun k (hk : w.heap.size ≤ k ∧ k < WN.heap.size) => by omega)) hK (fun k (hk : w.heap.size ≤ k ∧ k < WN.heap.size) => by have := HG.out; omega)); replace HK := Aside0.mk ((keep_far HK.out (p := ⟨WN.heap.size, 0, none⟩) hwn.out (.int .i64 g1)).trans hK (.inl rfl)); replace HI0 := Aside0.mk hI; replace HB := Aside0.mk hB; clear hI hB hK hb0 hb1 hb2 hbf0 hbf2; (try clear hc0 hc1 hf0 hf1); have hc0 := cellS67_0 HI0.out.1; have hc1 := cellS67_1 HI0.out.1; have hf0 := blk_frozen HI0.out.1 0; have hf1 := blk_frozen HI0.out.1 1; have hb0 := blk_cell BX.out 0; have hb1 := blk_cell BX.out 1; have hb2 := blk_cell BX.out 2; have hbf2 := blk_frozen BX.out 2)) | ((with_reducible refine gate_builtin (b := .append) (xs := #[.tmp 34, .tmp 36]) rfl ?_); at_builtin; (refine Kd.R_append k42 (w0 := (WV.setCell ⟨WN.heap.size, 2, none⟩ (.string x1))) w.heap.size rfl (.tmp 34) (.tmp 36) 37 42 (.agg #[.int .i64 0, .string ⟨#[]⟩, .string ⟨#[]⟩]) 40 rfl Try.underlying37 info42 rfl (by decide) (by omega) (.slice A3 o.length c3) o ⟨g1, n1, x1⟩ [.int .i64 g1, .string n1, .string x1] (fun k => w.heap.size ≤ k) (fun _ => False) rfl (by first | rfl | (go_simp; done) | (simp [World.setCell]; done)) ?aP (fun _ hk => hk.elim) ?aF ?aO ?aB ?aS ?aL ?_; (case aP => exact k42_mkM _ _ _ _); (case aB => exact Below.refl _ _); (case aF => exact (fun k hk => Nat.le_trans (keep_size (w := w) (g := g) (row := none) (keep_far HK.out (p := ⟨WN.heap.size, 2, none⟩) hwn.out _)) hk)); (case aO => exact R_okM (Kd.R_keep HO.out ((KeepBut.refl WV WN.heap.size none).set_ 2 _) (fun k (hk : w.heap.size ≤ k ∧ k < WN.heap.size) => by omega)) (fun k hk => (HO.out.1 k hk).1)); (case aS => exact keep_size (w := w) (g := g) (row := none) (keep_far HK.out (p := ⟨WN.heap.size, 2, none⟩) hwn.out _)); (case aL => have := HL.out; omega); intro z4 w5 ho hb hg hat; have HI1 := Aside0.mk (IsS67.grown (HI0.out.far (p := ⟨WN.heap.size, 2, none⟩) (Ne.symm hne.out) (.string x1)) hg (fun e => by have := (HO.out.1 _ e.symm).1; have := HG.out; omega)); replace HK := Aside0.mk (KeepBut.trans (keep_far HK.out (p := ⟨WN.heap.size, 2, none⟩) hwn.out (.string x1)) (KeepBut.of_grown hg g) (by cases hq_ : (Value.slice A3 o.length c3).ownBlock with | none => exact .inl rfl | some q_ => exact .inr ⟨q_, rfl, (HO.out.1 _ hq_).1⟩)); replace HB := Aside0.mk ((below_set (j := 2) (v := .string x1) HB.out (Nat.le_trans HW0.out hwn.out)).trans (hb.mono HW0.out)); replace HO := Aside0.mk ho; replace HI0 := HI1; obtain ⟨A_, c_, rfl, -⟩ := Kd.R_reads ho; clear ho hb hg hat HI1 hb0 hb1 hb2 hbf2; (try clear hc0 hc1 hf0 hf1); have hc0 := cellS67_0 HI0.out.1; have hc1 := cellS67_1 HI0.out.1; have hf0 := blk_frozen HI0.out.1 0; have hf1 := blk_frozen HI0.out.1 1)))
          go_roundg d
          case measure => omega
          case rel =>
            have ho := HO.out
            rw [HE.out] at ho
            exact ⟨x2, x3, _, ⟨by have := HL.out; rw [HE.out]; omega⟩, HV, HI0, HB, HK, ⟨ho⟩⟩
end Go.Proofs.Ytbfiacnmielajaa.P
namespace Go.Proofs.Ytbfiacnmielajaa.P
open Go.RowKit Go.Proofs.YtbfiacnmielajaaW.PrintWords Go.Proofs.YtbfiacnmielajaaW.PrintLast Go.Proofs.YtbfiacnmielajaaW.PrintMore
attribute [local go_sem] max2_int min2_int max_two min_two max_three min_three max_four min_four
set_option linter.unusedVariables false
set_option linter.unusedSimpArgs false
def labels_ParseMatchers.f (s : ByteArray) : Option (List S42 × Int) :=
  (labels_reader_all.f s false).bind fun v => if v.2.2 = true then some ([], 10) else
    (labels_CheckMatchers.f 3000 v.1).bind fun c => if c = 0 then some (v.1, 0) else some ([], 10)
set_option maxHeartbeats 8000000 in
set_option maxRecDepth 100000 in
theorem labels_ParseMatchers.calls (a0 : ByteArray) (r1 : List S42) (r2 : Int) (w : World) (h : labels_ParseMatchers.f a0 = some (r1, r2)) :
    Calls Try.prog 18 #[.string a0] w fun e w' => ∃ v0_ : Value, e = .returned (.tuple #[v0_, .int .i64 r2]) ∧ Kd.R k42 42 w' w.heap.size (fun _ => True) v0_ r1 ∧ Below w.heap.size w w' := by
  unfold labels_ParseMatchers.f at h
  replace h := Option.bind_eq_some_iff.mp h
  obtain ⟨⟨v1, v2, v3⟩, hv, h⟩ := h
  dsimp only at h
  have HV := Aside0.mk hv
  clear hv
  have HB := Aside0.mk (below_alloc (Below.refl w.heap.size w) (.cells #[.string a0, .bool false] 67))
  have HI := Aside0.mk (IsS67.new w w a0 false (Below.refl _ _))
  cases v3 with
  | true =>
    rw [if_pos rfl] at h
    simp only [Option.some.injEq, Prod.mk.injEq] at h
    obtain ⟨rfl, rfl⟩ := h
    go_enter Try.func18, Try.ntmps18
    go_wp2_with (go_at_call 33; ((with_reducible refine (labels_reader_all.calls w.heap.size a0 false v1 v2 _ w _ HI.out HB.out HV.out).mono ?_); rintro e w1 ⟨v0, rfl, hO, hI, hB, hK⟩; have HO : Aside0 (Kd.R k42 42 w1 w.heap.size (fun _ => True) v0 v1) := ⟨Kd.R_lower hO (by simp)⟩; replace HI := Aside0.mk hI; replace HB := Aside0.mk hB; obtain ⟨A_, c_, rfl, -⟩ := Kd.R_reads HO.out; clear hO hI hB hK; have hc1 := cellS67_1 HI.out.1))
    go_ret2
    exact ⟨_, rfl, Kd.R_nil _ _ _ _ _, HB.out⟩
  | false =>
    rw [if_neg (by decide)] at h
    replace h := Option.bind_eq_some_iff.mp h
    obtain ⟨c, hc, h⟩ := h
    have HC := Aside0.mk hc
    clear hc
    by_cases c0 : c = 0
    · rw [if_pos c0] at h
      subst c0
      simp only [Option.some.injEq, Prod.mk.injEq] at h
      obtain ⟨rfl, rfl⟩ := h
      go_enter Try.func18, Try.ntmps18
      go_wp2_with (first | (go_at_call 33; ((with_reducible refine (labels_reader_all.calls w.heap.size a0 false v1 v2 _ w _ HI.out HB.out HV.out).mono ?_); rintro e w1 ⟨v0, rfl, hO, hI, hB, hK⟩; have HO : Aside0 (Kd.R k42 42 w1 w.heap.size (fun _ => True) v0 v1) := ⟨Kd.R_lower hO (by simp)⟩; replace HI := Aside0.mk hI; replace HB := Aside0.mk hB; obtain ⟨A_, c_, rfl, -⟩ := Kd.R_reads HO.out; clear hO hI hB hK; have hc1 := cellS67_1 HI.out.1)) | (go_at_call 27; ((with_reducible refine (labels_CheckMatchers.calls 3000 A_ c_ v1 0 _ (Kd.R_reads' HO.out).2.2 (Kd.R_reads' HO.out).2.1 HC.out).mono ?_); rintro e w2 ⟨rfl, hb⟩; replace HO := Aside0.mk (Kd.R_below HO.out hb); replace HB := Aside0.mk (below_then HB.out HB.out.size hb); clear hb)))
      go_ret2
      exact ⟨_, rfl, HO.out, HB.out⟩
    · rw [if_neg c0] at h
      have d1 : (c != 0) = true := bne_iff_ne.2 c0
      simp only [Option.some.injEq, Prod.mk.injEq] at h
      obtain ⟨rfl, rfl⟩ := h
      go_enter Try.func18, Try.ntmps18
      go_wp2_with (first | (go_at_call 33; ((with_reducible refine (labels_reader_all.calls w.heap.size a0 false v1 v2 _ w _ HI.out HB.out HV.out).mono ?_); rintro e w1 ⟨v0, rfl, hO, hI, hB, hK⟩; have HO : Aside0 (Kd.R k42 42 w1 w.heap.size (fun _ => True) v0 v1) := ⟨Kd.R_lower hO (by simp)⟩; replace HI := Aside0.mk hI; replace HB := Aside0.mk hB; obtain ⟨A_, c_, rfl, -⟩ := Kd.R_reads HO.out; clear hO hI hB hK; have hc1 := cellS67_1 HI.out.1)) | (go_at_call 27; ((with_reducible refine (labels_CheckMatchers.calls 3000 A_ c_ v1 c _ (Kd.R_reads' HO.out).2.2 (Kd.R_reads' HO.out).2.1 HC.out).mono ?_); rintro e w2 ⟨rfl, hb⟩; replace HO := Aside0.mk (Kd.R_below HO.out hb); replace HB := Aside0.mk (below_then HB.out HB.out.size hb); clear hb)))
      go_ret2
      exact ⟨_, rfl, Kd.R_nil _ _ _ _ _, HB.out⟩
end Go.Proofs.Ytbfiacnmielajaa.P
namespace Go.Proofs.Ytbfiacnmielajaa.P
open Go.RowKit Go.Proofs.YtbfiacnmielajaaW.PrintWords Go.Proofs.YtbfiacnmielajaaW.PrintLast Go.Proofs.YtbfiacnmielajaaW.PrintMore
attribute [local go_sem] max2_int min2_int max_two min_two max_three min_three max_four min_four
set_option linter.unusedVariables false
set_option linter.unusedSimpArgs false
attribute [local go_sem high] leq_str gtr_str
def labels_Parse.l0 : Nat → List (S58) → List (S42) → Int → Int → Option ((List (S58)) × Int)
 | 0, _, _, _, _ => none
 | k + 1, x6, x17, x18, x19 => if x19 < x18 then (if 0 ≤ x19 then (if x19 < (x17.length : Int) then (if ((rd_T42 x17 x19).f0) = 0 then (if x6.length < 4398046511104 then (labels_Parse.l0 k (x6 ++ [(⟨(rd_T42 x17 x19).f1, (rd_T42 x17 x19).f2⟩ : S58)]) x17 x18 (wrap64 (x19 + 1))) else (none)) else (some (([] : List (S58)), 10))) else (none)) else (none)) else ((labels_Check.f k x6).bind fun t110 => (if t110 = 0 then (some (x6, 0)) else (some (([] : List (S58)), 10))))
def labels_Parse.f (k : Nat) (a0 : ByteArray) : Option ((List (S58)) × Int) := (labels_ParseMatchers.f a0).bind fun bt101 => (if bt101.2 = 0 then (labels_Parse.l0 k ([] : List (S58)) bt101.1 (bt101.1.length : Int) 0) else (some (([] : List (S58)), bt101.2)))
set_option maxHeartbeats 8000000 in
set_option maxRecDepth 100000 in
theorem labels_Parse.calls (k : Nat) (a0 : ByteArray) (r1 : List (S58)) (r2 : Int) (w : World) (h : labels_Parse.f k a0 = some (r1, r2)) :
  Calls Try.prog 15 #[.string a0] w fun e w' => ∃ v0_ : Value, e = .returned (.tuple #[v0_, .int .i64 r2]) ∧ Kd.R k58 58 w' w.heap.size (fun _ => True) v0_ r1 ∧ Below w.heap.size w w' := by
 have hu42 := Try.underlying42
 have hu58 := Try.underlying58
 have HB := Aside0.mk (Below.refl w.heap.size w)
 have H : ((labels_ParseMatchers.f a0).bind fun bt101 => (if bt101.2 = 0 then (labels_Parse.l0 k ([] : List (S58)) bt101.1 (bt101.1.length : Int) 0) else (some (([] : List (S58)), bt101.2)))) = some (r1, r2) := h
 clear h
 replace H := Option.bind_eq_some_iff.mp H
 obtain ⟨⟨t101, t102⟩, A20, H⟩ := H
 replace H : (if t102 = 0 then (labels_Parse.l0 k ([] : List (S58)) t101 (t101.length : Int) 0) else (some (([] : List (S58)), t102))) = some (r1, r2) := H
 have A2 := Aside0.mk A20
 clear A20
 by_cases c3 : t102 = 0
 ·rw [if_pos c3] at H
  have c3b0 : (t102 == 0) = true := beq_iff_eq.mpr c3
  have c3b1 : (t102 != 0) = false := bne_eq_false_iff_eq.mpr c3
  clear c3
  have H' := Aside0.mk H
  clear H
  go_enter Try.func15, Try.ntmps15
  go_wp2_with (first | ((with_reducible refine gate_callee (f := 18) rfl ?_); refine goesL_ (some 11) rfl rfl Try.func18 (by kernel_rfl) rfl #[.string a0] rfl (by (try simp only [List.map_toArray, List.map_cons, List.map_nil]); first | done | rfl | (simp only [List.length_drop, List.length_take]; rfl)) ?_; (with_reducible refine (labels_ParseMatchers.calls a0 t101 t102 _ A2.out).mono ?_); rintro e w4 ⟨v103, rfl, ho0, hb⟩; refine ⟨_, rfl, ?_⟩; have n0_ := Aside0.mk (Kd.R_lower ho0 (below_size (by repeat (first | (with_reducible first | exact HB.out | apply below_alloc | apply pw_below_drewN | apply below_drew1) | exact HB.out)))); have n1_ := Aside0.mk (below_step (by repeat (first | (with_reducible first | exact HB.out | apply below_alloc | apply pw_below_drewN | apply below_drew1) | exact HB.out)) hb); clear HB; have HO104 := n0_; have HB := n1_; clear n0_ n1_; (try clear hb); (try clear hb2); (try clear hk); (try clear hi); (try clear ho0); clear A2; obtain ⟨Ao5, co5, eo5⟩ := Kd.R_slice HO104.out; subst eo5))
  go_loopg [6, 19] k (fun kq v6 v19 w' => ∃ (x6_1 : List (S58)) (x19_1 : Int), v19 = .int .i64 x19_1 ∧ Aside0 (labels_Parse.l0 kq x6_1 t101 (t101.length : Int) x19_1 = some (r1, r2)) ∧ Aside0 (kq ≤ k) ∧ Aside0 (Kd.R k58 58 w' w.heap.size (fun _ => True) v6 x6_1) ∧ Aside0 (Kd.R k42 42 w' w.heap.size (fun _ => True) (.slice Ao5 t101.length co5) t101) ∧ Aside0 (Below w.heap.size w w'))
  case atStart => exact ⟨(([] : List (S58))), (0), (by first | rfl | (simp; done) | (simp [*]; done)), H', ⟨Nat.le_refl _⟩, ⟨by first | exact Kd.R_nil _ _ _ _ _ | exact Kd.N_nil _ _ _ _ _ | exact Kd.V_nil _ _ _ _ _ | exact Kd.Q_nil _ _ _ _ _ | exact Kd.S_nil _ _ _ _ _⟩, ⟨by (with_reducible repeat (first | apply Kd.R_alloc | apply Kd.R_drewN | apply Kd.R_drew)); exact HO104.out⟩, ⟨by repeat (first | (with_reducible first | exact HB.out | apply below_alloc | apply pw_below_drewN | apply below_drew1) | exact HB.out)⟩⟩
  case round =>
   clear H'
   try clear c1
   try clear p2
   try clear c3
   try clear c3b0
   try clear c3b1
   obtain ⟨x6_1, x19_1, rfl, HA, HK1, HO_6, HO_17, HB⟩ := hrel
   cases gk with
   | zero => exact absurd HA.out (by simp [labels_Parse.l0])
   | succ k1 =>
    have H := HA.out
    clear HA
    simp only [labels_Parse.l0] at H
    by_cases c6 : x19_1 < (t101.length : Int)
    ·rw [if_pos c6] at H
     have c6b0 : decide (x19_1 < (t101.length : Int)) = true := decide_eq_true c6
     clear c6
     by_cases c7 : 0 ≤ x19_1
     ·rw [if_pos c7] at H
      have c7b0 : decide (0 ≤ x19_1) = true := decide_eq_true c7
      clear c7
      by_cases c8 : x19_1 < (t101.length : Int)
      ·rw [if_pos c8] at H
       have c8b0 : decide (x19_1 < (t101.length : Int)) = true := decide_eq_true c8
       clear c8
       by_cases c9 : ((rd_T42 t101 x19_1).f0) = 0
       ·rw [if_pos c9] at H
        have c9b0 : (((rd_T42 t101 x19_1).f0) == 0) = true := beq_iff_eq.mpr c9
        have c9b1 : (((rd_T42 t101 x19_1).f0) != 0) = false := bne_eq_false_iff_eq.mpr c9
        clear c9
        by_cases c10 : x6_1.length < 4398046511104
        ·rw [if_pos c10] at H
         have LMc10 := Aside0.mk c10
         clear c10
         obtain ⟨y107, hy107⟩ : ∃ y_ : List (S58), y_ = (x6_1 ++ [(⟨(rd_T42 t101 x19_1).f1, (rd_T42 t101 x19_1).f2⟩ : S58)]) := ⟨_, rfl⟩
         replace H : (labels_Parse.l0 k1 y107 t101 (t101.length : Int) (wrap64 (x19_1 + 1))) = some (r1, r2) := by first | (rw [hy107]; with_reducible exact H) | (have H2_ := (Option.bind_some _ _).symm.trans H; rw [hy107]; with_reducible exact H2_) | (have H2_ := (Option.bind_some _ _).symm.trans H; with_reducible exact H2_) | with_reducible exact H | (rw [hy107]; exact H) | exact H
         have Ny107 := Aside0.mk hy107
         clear hy107
         have H' := Aside0.mk H
         clear H
         have p105 : 0 ≤ (x19_1 : Int) := of_decide_eq_true (by first | (with_reducible assumption) | assumption)
         have q105 : x19_1 < (t101.length : Int) := of_decide_eq_true (by first | (with_reducible assumption) | assumption)
         obtain ⟨ad105, e105, hx105_0, hx105_1, hx105_2⟩ := at_T42 (Kd.R_reads' HO_17.out).2.2 x19_1 p105 q105
         cases e105
         replace p105 := eq_true p105
         replace q105 := eq_true q105
         go_wp2_with (first | ((with_reducible refine gate_dst (N := 8) rfl ?_); refine box_event ?hg (N := 8) ?hd (cs := #[.int .i64 0, .string (⟨#[]⟩ : ByteArray), .string (⟨#[]⟩ : ByteArray)]) (t := 42) ?hr ?_; (case hd => rfl); (case hg => rfl); (case hr => first | (go_simp; done) | (go_simp; rfl)); intro gb106 hg w11 hbox hb; have n0_ := Aside0.mk (Kd.R_below (by (with_reducible repeat (first | apply Kd.R_alloc | apply Kd.R_drewN | apply Kd.R_drew)); exact HO_6.out) hb); have n1_ := Aside0.mk (Kd.R_below (Kd.R_elderB (by (with_reducible repeat (first | apply Kd.R_alloc | apply Kd.R_drewN | apply Kd.R_drew)); exact HO_17.out) gb106 (Nat.le_of_eq hg.symm)) hb); have n2_ := Aside0.mk (below_step (by repeat (first | (with_reducible first | exact HB.out | apply below_alloc | apply pw_below_drewN | apply below_drew1) | exact HB.out)) hb); have n3_ := Aside0.mk (hbox); have n4_ := Aside0.mk ((by rw [hg]; exact (below_size (by repeat (first | (with_reducible first | exact HB.out | apply below_alloc | apply pw_below_drewN | apply below_drew1) | exact HB.out))) : w.heap.size ≤ gb106)); have n5_ := Aside0.mk ((by rw [hg]; exact (below_size (by repeat (first | (with_reducible first | exact HB.out | apply below_alloc | apply pw_below_drewN | apply below_drew1) | exact HB.out))) : w.heap.size ≤ gb106)); clear HO_6; clear HO_17; clear HB; have HO_6 := n0_; have HO_17 := n1_; have HB := n2_; have BK106 := n3_; have GW106 := n4_; have GE106 := n5_; clear n0_ n1_ n2_ n3_ n4_ n5_; clear hb hbox hg; have hcz12_0 : w11.cell? ⟨gb106, 0, none⟩ = some (.int .i64 0) := (blk_cell BK106.out 0).trans rfl; have hcz12_1 : w11.cell? ⟨gb106, 1, none⟩ = some (.string (⟨#[]⟩ : ByteArray)) := (blk_cell BK106.out 1).trans rfl; have hcz12_2 : w11.cell? ⟨gb106, 2, none⟩ = some (.string (⟨#[]⟩ : ByteArray)) := (blk_cell BK106.out 2).trans rfl; have hfz12_0 := blk_frozen BK106.out 0; have hfz12_1 := blk_frozen BK106.out 1; have hfz12_2 := blk_frozen BK106.out 2) | ((with_reducible refine gate_builtin (b := .append) (xs := #[.tmp 26, .tmp 32]) rfl ?_); at_builtin; refine Kd.R_append k58 (w0 := w) w.heap.size rfl (.tmp 26) (.tmp 32) 22 58 (.agg #[(.string ⟨#[]⟩), (.string ⟨#[]⟩)]) 32 rfl Try.underlying22 info58 rfl (by decide) (by omega) u6 x6_1 (⟨(rd_T42 t101 x19_1).f1, (rd_T42 t101 x19_1).f2⟩ : S58) [.string ((rd_T42 t101 x19_1).f1), .string ((rd_T42 t101 x19_1).f2)] (fun _ => True) (fun _ => False) rfl (by first | (go_simp; done) | (go_simp; rfl)) ?aP (fun _ hk => hk.elim) ?aF ?aO ?aB ?aS ?aL ?_; (case aP => exact k58_mkM _ _ _ (⟨(rd_T42 t101 x19_1).f1, (rd_T42 t101 x19_1).f2⟩ : S58)); (case aB => exact (by repeat (first | (with_reducible first | exact HB.out | apply below_alloc | apply pw_below_drewN | apply below_drew1 | refine below_set ?_ GE106.out) | exact HB.out))); (case aF => exact (fun _ _ => trivial)); (case aO => exact (by (with_reducible repeat (first | apply Kd.R_alloc | apply Kd.R_drewN | apply Kd.R_drew)); exact Kd.R_mono (Kd.R_far (p := ⟨gb106, 2, none⟩) (Kd.R_far (p := ⟨gb106, 1, none⟩) (Kd.R_far (p := ⟨gb106, 0, none⟩) (Kd.R_types HO_6.out BK106.out (by decide)) (fun _ hk => hk.2) (.int .i64 ((rd_T42 t101 x19_1).f0))) (fun _ hk => hk.2) (.string ((rd_T42 t101 x19_1).f1))) (fun _ hk => hk.2) (.string ((rd_T42 t101 x19_1).f2))) (fun _ hk => trivial))); (case aS => exact (below_size (by repeat (first | (with_reducible first | exact HB.out | apply below_alloc | apply pw_below_drewN | apply below_drew1 | refine below_set ?_ GE106.out) | exact HB.out)))); (case aL => have := LMc10.out; omega); intro v108 w13 ho hb hg hat; rw [← Ny107.out] at ho; have n0_ := Aside0.mk (Kd.R_over' (by (with_reducible repeat (first | apply Kd.R_alloc | apply Kd.R_drewN | apply Kd.R_drew)); exact (Kd.R_mono (Kd.R_far (p := ⟨gb106, 2, none⟩) (Kd.R_far (p := ⟨gb106, 1, none⟩) (Kd.R_far (p := ⟨gb106, 0, none⟩) (Kd.R_mono HO_17.out (fun k_ hk => (⟨hk, hk.2⟩ : _ ∧ k_ ≠ gb106))) (fun _ hk => hk.2) (.int .i64 ((rd_T42 t101 x19_1).f0))) (fun _ hk => hk.2) (.string ((rd_T42 t101 x19_1).f1))) (fun _ hk => hk.2) (.string ((rd_T42 t101 x19_1).f2))) (fun _ h_ => h_.1))) (Kd.R_typed (by (with_reducible repeat (first | apply Kd.R_alloc | apply Kd.R_drewN | apply Kd.R_drew)); exact (Kd.R_mono (Kd.R_far (p := ⟨gb106, 2, none⟩) (Kd.R_far (p := ⟨gb106, 1, none⟩) (Kd.R_far (p := ⟨gb106, 0, none⟩) (Kd.R_types HO_6.out BK106.out (by decide)) (fun _ hk => hk.2) (.int .i64 ((rd_T42 t101 x19_1).f0))) (fun _ hk => hk.2) (.string ((rd_T42 t101 x19_1).f1))) (fun _ hk => hk.2) (.string ((rd_T42 t101 x19_1).f2))) (fun _ h_ => h_.1)))) (by decide) hg); have n1_ := Aside0.mk (blk_grown (g := gb106) (o := .cells #[.int .i64 ((rd_T42 t101 x19_1).f0), .string ((rd_T42 t101 x19_1).f1), .string ((rd_T42 t101 x19_1).f2)] 42 (0, 0)) (by (with_reducible repeat (first | refine blk_drewN ?_ _ | refine blk_drew ?_ | refine blk_alloc ?_ _)); refine blk_put (cs := #[.int .i64 ((rd_T42 t101 x19_1).f0), .string ((rd_T42 t101 x19_1).f1), .string (⟨#[]⟩ : ByteArray)]) ?_ 2 _ rfl; (with_reducible repeat (first | refine blk_drewN ?_ _ | refine blk_drew ?_ | refine blk_alloc ?_ _)); refine blk_put (cs := #[.int .i64 ((rd_T42 t101 x19_1).f0), .string (⟨#[]⟩ : ByteArray), .string (⟨#[]⟩ : ByteArray)]) ?_ 1 _ rfl; (with_reducible repeat (first | refine blk_drewN ?_ _ | refine blk_drew ?_ | refine blk_alloc ?_ _)); refine blk_put (cs := #[.int .i64 0, .string (⟨#[]⟩ : ByteArray), .string (⟨#[]⟩ : ByteArray)]) ?_ 0 _ rfl; (with_reducible repeat (first | refine blk_drewN ?_ _ | refine blk_drew ?_ | refine blk_alloc ?_ _)); exact BK106.out) hg (Kd.R_ne HO_6.out BK106.out (by decide))); have n2_ := Aside0.mk (hb); have n3_ := Aside0.mk (ho); clear HO_17; clear BK106; clear HB; clear HO_6; have HO_17 := n0_; have BK106 := n1_; have HB := n2_; have HO109 := n3_; clear n0_ n1_ n2_ n3_; clear ho hb hg hat))
         go_roundg k1
         case measure => have := HK1.out; omega
         case rel => exact ⟨(y107), (wrap64 (x19_1 + 1)), (by first | rfl | (simp; done) | (simp [*]; done)), H', ⟨by have := HK1.out; omega⟩, ⟨by (with_reducible repeat (first | apply Kd.R_alloc | apply Kd.R_drewN | apply Kd.R_drew)); exact HO109.out⟩, ⟨by (with_reducible repeat (first | apply Kd.R_alloc | apply Kd.R_drewN | apply Kd.R_drew)); exact Kd.R_mono HO_17.out (fun _ hk => trivial)⟩, ⟨by repeat (first | (with_reducible first | exact HB.out | apply below_alloc | apply pw_below_drewN | apply below_drew1 | refine below_set ?_ GE106.out) | exact HB.out)⟩⟩
        ·rw [if_neg c10] at H
         exact absurd H (by simp)
       ·rw [if_neg c9] at H
        have c9b0 : (((rd_T42 t101 x19_1).f0) == 0) = false := beq_eq_false_iff_ne.mpr c9
        have c9b1 : (((rd_T42 t101 x19_1).f0) != 0) = true := bne_iff_ne.mpr c9
        simp only [Option.some.injEq, Prod.mk.injEq] at H
        obtain ⟨rfl, rfl⟩ := H
        have p105 : 0 ≤ (x19_1 : Int) := of_decide_eq_true (by first | (with_reducible assumption) | assumption)
        have q105 : x19_1 < (t101.length : Int) := of_decide_eq_true (by first | (with_reducible assumption) | assumption)
        obtain ⟨ad105, e105, hx105_0, hx105_1, hx105_2⟩ := at_T42 (Kd.R_reads' HO_17.out).2.2 x19_1 p105 q105
        cases e105
        replace p105 := eq_true p105
        replace q105 := eq_true q105
        go_wp2_with (first | ((with_reducible refine gate_dst (N := 8) rfl ?_); refine box_event ?hg (N := 8) ?hd (cs := #[.int .i64 0, .string (⟨#[]⟩ : ByteArray), .string (⟨#[]⟩ : ByteArray)]) (t := 42) ?hr ?_; (case hd => rfl); (case hg => rfl); (case hr => first | (go_simp; done) | (go_simp; rfl)); intro gb106 hg w14 hbox hb; have n0_ := Aside0.mk (Kd.R_below (by (with_reducible repeat (first | apply Kd.R_alloc | apply Kd.R_drewN | apply Kd.R_drew)); exact HO_6.out) hb); have n1_ := Aside0.mk (Kd.R_below (Kd.R_elderB (by (with_reducible repeat (first | apply Kd.R_alloc | apply Kd.R_drewN | apply Kd.R_drew)); exact HO_17.out) gb106 (Nat.le_of_eq hg.symm)) hb); have n2_ := Aside0.mk (below_step (by repeat (first | (with_reducible first | exact HB.out | apply below_alloc | apply pw_below_drewN | apply below_drew1) | exact HB.out)) hb); have n3_ := Aside0.mk (hbox); have n4_ := Aside0.mk ((by rw [hg]; exact (below_size (by repeat (first | (with_reducible first | exact HB.out | apply below_alloc | apply pw_below_drewN | apply below_drew1) | exact HB.out))) : w.heap.size ≤ gb106)); have n5_ := Aside0.mk ((by rw [hg]; exact (below_size (by repeat (first | (with_reducible first | exact HB.out | apply below_alloc | apply pw_below_drewN | apply below_drew1) | exact HB.out))) : w.heap.size ≤ gb106)); clear HO_6; clear HO_17; clear HB; have HO_6 := n0_; have HO_17 := n1_; have HB := n2_; have BK106 := n3_; have GW106 := n4_; have GE106 := n5_; clear n0_ n1_ n2_ n3_ n4_ n5_; clear hb hbox hg; have hcz15_0 : w14.cell? ⟨gb106, 0, none⟩ = some (.int .i64 0) := (blk_cell BK106.out 0).trans rfl; have hcz15_1 : w14.cell? ⟨gb106, 1, none⟩ = some (.string (⟨#[]⟩ : ByteArray)) := (blk_cell BK106.out 1).trans rfl; have hcz15_2 : w14.cell? ⟨gb106, 2, none⟩ = some (.string (⟨#[]⟩ : ByteArray)) := (blk_cell BK106.out 2).trans rfl; have hfz15_0 := blk_frozen BK106.out 0; have hfz15_1 := blk_frozen BK106.out 1; have hfz15_2 := blk_frozen BK106.out 2))
        go_ret2
        exact ⟨_, by first | rfl | (simp [errW_none, errW_some] <;> rfl) | (simp [*, errW_none, errW_some] <;> rfl), by first | exact Kd.R_nil _ _ _ _ _ | exact Kd.N_nil _ _ _ _ _ | exact Kd.V_nil _ _ _ _ _ | exact Kd.Q_nil _ _ _ _ _ | exact Kd.S_nil _ _ _ _ _, by repeat (first | (with_reducible first | exact HB.out | apply below_alloc | apply pw_below_drewN | apply below_drew1 | refine below_set ?_ GE106.out) | exact HB.out)⟩
      ·rw [if_neg c8] at H
       exact absurd H (by simp)
     ·rw [if_neg c7] at H
      exact absurd H (by simp)
    ·rw [if_neg c6] at H
     have c6b0 : decide (x19_1 < (t101.length : Int)) = false := decide_eq_false c6
     clear c6
     replace H := Option.bind_eq_some_iff.mp H
     obtain ⟨t110, A160, H⟩ := H
     replace H : (if t110 = 0 then (some (x6_1, 0)) else (some (([] : List (S58)), 10))) = some (r1, r2) := H
     have A16 := Aside0.mk A160
     clear A160
     by_cases c17 : t110 = 0
     ·rw [if_pos c17] at H
      have c17b0 : (t110 == 0) = true := beq_iff_eq.mpr c17
      have c17b1 : (t110 != 0) = false := bne_eq_false_iff_eq.mpr c17
      clear c17
      simp only [Option.some.injEq, Prod.mk.injEq] at H
      obtain ⟨rfl, rfl⟩ := H
      obtain ⟨Ao18, co18, eo18⟩ := Kd.R_slice HO_6.out
      subst eo18
      go_wp2_with (first | ((with_reducible refine gate_callee (f := 14) rfl ?_); refine goesL_ (some 36) rfl rfl Try.func14 (by kernel_rfl) rfl #[.slice Ao18 x6_1.length co18] rfl (by (try simp only [List.map_toArray, List.map_cons, List.map_nil]); first | done | rfl | (simp only [List.length_drop, List.length_take]; rfl)) ?_; (with_reducible refine (labels_Check.calls k1 _ _ x6_1 t110 _ ?side1 ?side2 A16.out).mono ?_); (case side1 => repeat (first | exact (Kd.R_reads' HO_6.out).2.2 | (with_reducible refine Kd.C_alloc ?_ _) | (with_reducible refine Kd.C_drewN ?_ _) | (with_reducible refine Kd.C_drew ?_))); (case side2 => exact (Kd.R_reads' HO_6.out).2.1); rintro e w19 ⟨rfl, hb⟩; refine ⟨_, rfl, ?_⟩; have n0_ := Aside0.mk (Kd.R_below (by (with_reducible repeat (first | apply Kd.R_alloc | apply Kd.R_drewN | apply Kd.R_drew)); exact HO_6.out) hb); have n1_ := Aside0.mk (Kd.R_below (by (with_reducible repeat (first | apply Kd.R_alloc | apply Kd.R_drewN | apply Kd.R_drew)); exact HO_17.out) hb); have n2_ := Aside0.mk (below_step (by repeat (first | (with_reducible first | exact HB.out | apply below_alloc | apply pw_below_drewN | apply below_drew1) | exact HB.out)) hb); clear HO_6; clear HO_17; clear HB; have HO_6 := n0_; have HO_17 := n1_; have HB := n2_; clear n0_ n1_ n2_; (try clear hb); (try clear hb2); (try clear hk); (try clear hi); clear A16))
      go_ret2
      exact ⟨_, by first | rfl | (simp [errW_none, errW_some] <;> rfl) | (simp [*, errW_none, errW_some] <;> rfl), by (with_reducible repeat (first | apply Kd.R_alloc | apply Kd.R_drewN | apply Kd.R_drew)); exact HO_6.out, by repeat (first | (with_reducible first | exact HB.out | apply below_alloc | apply pw_below_drewN | apply below_drew1) | exact HB.out)⟩
     ·rw [if_neg c17] at H
      have c17b0 : (t110 == 0) = false := beq_eq_false_iff_ne.mpr c17
      have c17b1 : (t110 != 0) = true := bne_iff_ne.mpr c17
      simp only [Option.some.injEq, Prod.mk.injEq] at H
      obtain ⟨rfl, rfl⟩ := H
      obtain ⟨Ao20, co20, eo20⟩ := Kd.R_slice HO_6.out
      subst eo20
      go_wp2_with (first | ((with_reducible refine gate_callee (f := 14) rfl ?_); refine goesL_ (some 36) rfl rfl Try.func14 (by kernel_rfl) rfl #[.slice Ao20 x6_1.length co20] rfl (by (try simp only [List.map_toArray, List.map_cons, List.map_nil]); first | done | rfl | (simp only [List.length_drop, List.length_take]; rfl)) ?_; (with_reducible refine (labels_Check.calls k1 _ _ x6_1 t110 _ ?side1 ?side2 A16.out).mono ?_); (case side1 => repeat (first | exact (Kd.R_reads' HO_6.out).2.2 | (with_reducible refine Kd.C_alloc ?_ _) | (with_reducible refine Kd.C_drewN ?_ _) | (with_reducible refine Kd.C_drew ?_))); (case side2 => exact (Kd.R_reads' HO_6.out).2.1); rintro e w21 ⟨rfl, hb⟩; refine ⟨_, rfl, ?_⟩; have n0_ := Aside0.mk (Kd.R_below (by (with_reducible repeat (first | apply Kd.R_alloc | apply Kd.R_drewN | apply Kd.R_drew)); exact HO_6.out) hb); have n1_ := Aside0.mk (Kd.R_below (by (with_reducible repeat (first | apply Kd.R_alloc | apply Kd.R_drewN | apply Kd.R_drew)); exact HO_17.out) hb); have n2_ := Aside0.mk (below_step (by repeat (first | (with_reducible first | exact HB.out | apply below_alloc | apply pw_below_drewN | apply below_drew1) | exact HB.out)) hb); clear HO_6; clear HO_17; clear HB; have HO_6 := n0_; have HO_17 := n1_; have HB := n2_; clear n0_ n1_ n2_; (try clear hb); (try clear hb2); (try clear hk); (try clear hi); clear A16))
      go_ret2
      exact ⟨_, by first | rfl | (simp [errW_none, errW_some] <;> rfl) | (simp [*, errW_none, errW_some] <;> rfl), by first | exact Kd.R_nil _ _ _ _ _ | exact Kd.N_nil _ _ _ _ _ | exact Kd.V_nil _ _ _ _ _ | exact Kd.Q_nil _ _ _ _ _ | exact Kd.S_nil _ _ _ _ _, by repeat (first | (with_reducible first | exact HB.out | apply below_alloc | apply pw_below_drewN | apply below_drew1) | exact HB.out)⟩
 ·rw [if_neg c3] at H
  have c3b0 : (t102 == 0) = false := beq_eq_false_iff_ne.mpr c3
  have c3b1 : (t102 != 0) = true := bne_iff_ne.mpr c3
  simp only [Option.some.injEq, Prod.mk.injEq] at H
  obtain ⟨rfl, rfl⟩ := H
  go_enter Try.func15, Try.ntmps15
  go_wp2_with (first | ((with_reducible refine gate_callee (f := 18) rfl ?_); refine goesL_ (some 11) rfl rfl Try.func18 (by kernel_rfl) rfl #[.string a0] rfl (by (try simp only [List.map_toArray, List.map_cons, List.map_nil]); first | done | rfl | (simp only [List.length_drop, List.length_take]; rfl)) ?_; (with_reducible refine (labels_ParseMatchers.calls a0 t101 t102 _ A2.out).mono ?_); rintro e w22 ⟨v103, rfl, ho0, hb⟩; refine ⟨_, rfl, ?_⟩; have n0_ := Aside0.mk (Kd.R_lower ho0 (below_size (by repeat (first | (with_reducible first | exact HB.out | apply below_alloc | apply pw_below_drewN | apply below_drew1) | exact HB.out)))); have n1_ := Aside0.mk (below_step (by repeat (first | (with_reducible first | exact HB.out | apply below_alloc | apply pw_below_drewN | apply below_drew1) | exact HB.out)) hb); clear HB; have HO104 := n0_; have HB := n1_; clear n0_ n1_; (try clear hb); (try clear hb2); (try clear hk); (try clear hi); (try clear ho0); clear A2))
  go_ret2
  exact ⟨_, by first | rfl | (simp [errW_none, errW_some] <;> rfl) | (simp [*, errW_none, errW_some] <;> rfl), by first | exact Kd.R_nil _ _ _ _ _ | exact Kd.N_nil _ _ _ _ _ | exact Kd.V_nil _ _ _ _ _ | exact Kd.Q_nil _ _ _ _ _ | exact Kd.S_nil _ _ _ _ _, by repeat (first | (with_reducible first | exact HB.out | apply below_alloc | apply pw_below_drewN | apply below_drew1) | exact HB.out)⟩
end Go.Proofs.Ytbfiacnmielajaa.P
namespace Go.Proofs.Ytbfiacnmielajaa.P
open Go.RowKit Go.Proofs.YtbfiacnmielajaaW.PrintWords Go.Proofs.YtbfiacnmielajaaW.PrintLast Go.Proofs.YtbfiacnmielajaaW.PrintMore
attribute [local go_sem] max2_int min2_int max_two min_two max_three min_three max_four min_four
set_option linter.unusedVariables false
set_option linter.unusedSimpArgs false
theorem index_one (c : UInt8) : ∀ s : List UInt8, Lib.index s [c] = Lib.indexByte s c
  | [] => rfl
  | a :: s => by
    have ih := index_one c s
    simp only [Lib.index, Lib.indexByte]
    rw [ih]
    by_cases h : a = c
    · subst h; simp [List.isPrefixOf]
    · simp [List.isPrefixOf, h, Ne.symm h]
def holdsB (s t : ByteArray) : Bool := Lib.contains s.data.toList t.data.toList
def hpB (s t : ByteArray) : Bool := (strings_HasPrefix.f s t).getD false
theorem hpB_eq (s t : ByteArray) : strings_HasPrefix.f s t = some (hpB s t) := by
  unfold hpB strings_HasPrefix.f stringslite_HasPrefix.f
  by_cases h : (s.size : Int) ≥ (t.size : Int)
  · rw [if_pos h, if_pos (by omega), if_pos (by omega)]; rfl
  · rw [if_neg h]; rfl
def GMax (w : World) : Prop := ∃ m, w.cell? ⟨lay144_ren.g 1, 0, none⟩ = some (.int .i64 m)
theorem GMax.below {w w' : World} (h : GMax w) (hb : Below w.heap.size w w') : GMax w' := by
  obtain ⟨m, h⟩ := h
  exact ⟨m, (hb.cell (World.block_lt_of_cell? _ _ h)).trans h⟩
def OkH (k : Int) (t v : ByteArray) (w : World) : Prop := k = 3 → (∃ c, t = ⟨#[c]⟩) ∨ (v.size < 4294967281 ∧ GMax w)
theorem OkH.below {k : Int} {t v : ByteArray} {w w' : World} (h : OkH k t v w) (hb : Below w.heap.size w w') : OkH k t v w' := fun hk => (h hk).imp id (fun x => ⟨x.1, x.2.below hb⟩)
theorem contains_c (s t : ByteArray) (w : World) (h : (∃ c, t = ⟨#[c]⟩) ∨ (s.size < 4294967281 ∧ GMax w)) : Calls Try.prog 51 #[.string s, .string t] w fun e w' => e = .returned (.bool (holdsB s t)) ∧ w = w' := by
  rcases h with ⟨c, rfl⟩ | ⟨h1, m, h2⟩
  · refine (Any.strings_Contains_one lay144 s c w).mono fun e w' h => ⟨?_, h.2.symm⟩
    rw [h.1]
    unfold holdsB Lib.contains
    rw [← index_one]
  · exact (Any.strings_Contains lay144 s t m w h1 h2).mono fun e w' h => ⟨h.1, h.2.symm⟩
def fitsR (k : Int) (t v : ByteArray) : Bool := if k = 0 then v.toList == t.toList else if k = 1 then !(v.toList == t.toList) else if k = 2 then hpB v t else if k = 3 then holdsB v t else false
set_option maxHeartbeats 8000000 in
set_option maxRecDepth 100000 in
theorem fits_c (k : Int) (n t v : ByteArray) (w : World) (hok : OkH k t v w) : Calls Try.prog 36 #[.agg #[.int .i64 k, .string n, .string t], .string v] w fun e w' => e = .returned (.bool (fitsR k t v)) ∧ Below w.heap.size w w' := by
  have hu := Try.underlying42
  have HB := Aside0.mk (below_alloc (Below.refl w.heap.size w) (.cells #[.int .i64 k, .string n, .string t] 42))
  have HO := Aside0.mk (hok.below HB.out)
  clear hok
  unfold fitsR
  by_cases k0 : k = 0
  · subst k0
    rw [if_pos rfl]
    go_enter Try.func36, Try.ntmps36
    go_wp2
    go_ret
    exact ⟨rfl, HB.out⟩
  have e0 : (k == 0) = false := beq_eq_false_iff_ne.2 k0
  rw [if_neg k0]
  by_cases k1 : k = 1
  · subst k1
    rw [if_pos rfl]
    clear k0 e0
    go_enter Try.func36, Try.ntmps36
    go_wp2
    go_ret
    exact ⟨rfl, HB.out⟩
  have e1 : (k == 1) = false := beq_eq_false_iff_ne.2 k1
  rw [if_neg k1]
  by_cases k2 : k = 2
  · subst k2
    rw [if_pos rfl]
    clear k0 e0 k1 e1
    have HP := Aside0.mk (hpB_eq v t)
    go_enter Try.func36, Try.ntmps36
    go_wp2_with (go_at_call 46; (with_reducible refine (strings_HasPrefix.calls v t _ _ HP.out).mono ?_); rintro e w' ⟨rfl, ⟨nd, rfl⟩⟩)
    go_ret
    exact ⟨rfl, pw_below_drewN HB.out _⟩
  have e2 : (k == 2) = false := beq_eq_false_iff_ne.2 k2
  rw [if_neg k2]
  by_cases k3 : k = 3
  · have HC := Aside0.mk (contains_c v t _ (HO.out k3))
    subst k3
    rw [if_pos rfl]
    clear k0 e0 k1 e1 k2 e2 HO
    go_enter Try.func36, Try.ntmps36
    go_wp2_with (go_at_call 51; (with_reducible refine HC.out.mono ?_); rintro e w' ⟨rfl, rfl⟩)
    go_ret
    exact ⟨rfl, HB.out⟩
  have e3 : (k == 3) = false := beq_eq_false_iff_ne.2 k3
  rw [if_neg k3]
  clear k0 k1 k2 k3 HO
  go_enter Try.func36, Try.ntmps36
  go_wp2
  go_ret
  exact ⟨rfl, HB.out⟩
theorem rdL_nat9 (l : List S58) (i : Nat) (h : i < l.length) : rd_T58 l (i : Int) = l[i] := by unfold rd_T58; simp [List.getD, h]
def getP : List S58 → ByteArray → ByteArray × Bool
  | [], _ => (⟨#[]⟩, false)
  | x :: l, n => if x.f0.toList == n.toList then (x.f1, true) else getP l n
theorem get_l0 (n : ByteArray) (l : List S58) (hl : l.length ≤ 1000000) : ∀ (d k i : Nat), i + d = l.length → d < k → labels_Get.l0 k n l (l.length : Int) (i : Int) = some (getP (l.drop i) n) := by
  intro d
  induction d with
  | zero =>
    intro k i hi hk
    obtain ⟨k, rfl⟩ : ∃ m, k = m + 1 := ⟨k - 1, by omega⟩
    simp only [labels_Get.l0]
    rw [if_neg (by omega), List.drop_of_length_le (by omega)]
    rfl
  | succ d ih =>
    intro k i hi hk
    obtain ⟨k, rfl⟩ : ∃ m, k = m + 1 := ⟨k - 1, by omega⟩
    have hw : wrap64 ((i : Int) + 1) = ((i + 1 : Nat) : Int) := by unfold wrap64; omega
    simp only [labels_Get.l0]
    rw [if_pos (by omega), if_pos (by omega), if_pos (by omega), hw, ih k (i + 1) (by omega) (by omega), rdL_nat9 l i (by omega), List.drop_eq_getElem_cons (show i < l.length by omega)]
    simp only [getP]
    by_cases h : (l[i]'(show i < l.length by omega)).f0.toList = n.toList
    · rw [if_pos h, if_pos (beq_iff_eq.2 h)]
    · rw [if_neg h, if_neg (fun e => h (beq_iff_eq.1 e))]
theorem get_eq (l : List S58) (n : ByteArray) (hl : l.length ≤ 1000000) (k : Nat) (hk : l.length < k) : labels_Get.f k l n = some (getP l n) := by
  unfold labels_Get.f
  rw [show (0 : Int) = ((0 : Nat) : Int) from rfl, get_l0 n l hl l.length k 0 (by omega) hk]
  rfl
def missB (l : List S58) (x : S42) : Bool := !(fitsR x.f0 x.f2 (getP l x.f1).1)
def matchR (l : List S58) (m : List S42) : Bool := m.all fun x => !(missB l x)
set_option maxHeartbeats 8000000 in
set_option maxRecDepth 100000 in
theorem miss_c (l : List S58) (hl : l.length ≤ 1000000) (x : S42) (A : Option Addr) (c b : Nat) (w : World) (hr : Kd.C k58 w A l.length l) (hc : l.length ≤ c) (hb : w.cell? ⟨b, 0, none⟩ = some (.slice A l.length c)) (hok : OkH x.f0 x.f2 (getP l x.f1).1 w) :
    Calls Try.prog 35 #[.agg #[.int .i64 x.f0, .string x.f1, .string x.f2], .pointer (some ⟨b, 0, none⟩)] w fun e w' => e = .returned (.bool (missB l x)) ∧ Below w.heap.size w w' := by
  obtain ⟨k, n, t⟩ := x
  dsimp only at hok ⊢
  unfold missB
  dsimp only
  have hu := Try.underlying42
  have HB := Aside0.mk (below_alloc (Below.refl w.heap.size w) (.cells #[.int .i64 k, .string n, .string t] 42))
  have BX := Aside0.mk (blk_new w (.cells #[.int .i64 k, .string n, .string t] 42))
  have hb' := (HB.out.cell (World.block_lt_of_cell? _ _ hb)).trans hb
  have HR := Aside0.mk (Kd.C_below hr HB.out)
  have HO := Aside0.mk (hok.below HB.out)
  have HG := Aside0.mk (get_eq l n hl (l.length + 1) (by omega))
  clear hr hb hok
  generalize getP l n = pr at HO HG ⊢
  obtain ⟨v, q⟩ := pr
  dsimp only at HO HG ⊢
  have hc0 := blk_cell BX.out 0
  have hc1 := blk_cell BX.out 1
  have hc2 := blk_cell BX.out 2
  go_enter Try.func35, Try.ntmps35
  go_wp2_with (first | (go_at_call 20; ((with_reducible refine (labels_Get.calls (l.length + 1) A c l n v q _ HR.out hc HG.out).mono ?_); rintro e w1 ⟨rfl, hb⟩; replace HB := Aside0.mk (below_then HB.out HB.out.size hb); replace HO := Aside0.mk (HO.out.below hb); replace BX := Aside0.mk (blk_below BX.out hb); clear hb; have hd0 := blk_cell BX.out 0; have hd1 := blk_cell BX.out 1; have hd2 := blk_cell BX.out 2)) | (go_at_call 36; ((with_reducible refine (fits_c k n t v _ HO.out).mono ?_); rintro e w2 ⟨rfl, hb⟩; replace HB := Aside0.mk (below_then HB.out HB.out.size hb); clear hb)))
  go_ret
  exact ⟨rfl, HB.out⟩
theorem rdM_nat9 (l : List S42) (i : Nat) (h : i < l.length) : rd_T42 l (i : Int) = l[i] := by unfold rd_T42; simp [List.getD, h]
def idxM (p : S42 → Bool) : Nat → List S42 → Int
  | _, [] => -1
  | i, x :: l => if p x then (i : Int) else idxM p (i + 1) l
set_option maxHeartbeats 8000000 in
set_option maxRecDepth 100000 in
theorem indexFunc_c (g : Nat) (cap : Array Value) (p : S42 → Bool) (A : Option Addr) (c : Nat) (l : List S42) (w : World) (hr : Kd.C k42 w A l.length l) (hc : l.length ≤ c)
    (hp : ∀ (W : World) (x : S42), x ∈ l → Below w.heap.size w W → Calls Try.prog g (#[.agg #[.int .i64 x.f0, .string x.f1, .string x.f2]] ++ cap) W fun e w' => e = .returned (.bool (p x)) ∧ Below W.heap.size W w') (eg : ∀ args w, (callFunc g args).run Try.prog w = .ok (.enter g args) w) :
    Calls Try.prog 50 #[.slice A l.length c, .func (.func g) #[] cap] w fun e w' => e = .returned (.int .i64 (idxM p 0 l)) ∧ Below w.heap.size w w' := by
  have hu := Try.underlying42
  have hm : l.length ≤ 9223372036854775807 := hr.2.1
  have HR := Aside0.mk hr
  have HP := Aside0.mk hp
  clear hr hp
  go_enter Try.func50, Try.ntmps50
  go_wp2
  go_loopg [5, 8] l.length (fun gg _ s8 wr => ∃ kk : Nat, kk + gg = l.length ∧ s8 = .int .i64 kk ∧ Aside0 (Below w.heap.size w wr) ∧ Aside0 (idxM p kk (l.drop kk) = idxM p 0 l))
  case atStart => exact ⟨0, by omega, rfl, ⟨Below.refl _ w⟩, ⟨rfl⟩⟩
  case round =>
    obtain ⟨kk, hg, rfl, HB, HA⟩ := hrel
    by_cases hlt : kk < l.length
    · have hlti : (kk : Int) < (l.length : Int) := by omega
      obtain ⟨g1, rfl⟩ : ∃ m, gk = m + 1 := ⟨gk - 1, by omega⟩
      have ha := HA.out
      rw [List.drop_eq_getElem_cons hlt] at ha
      simp only [idxM] at ha
      obtain ⟨ad, e1, hx0, hx1, hx2⟩ := at_T42 HR.out kk (by omega) (by omega)
      cases e1
      replace hx0 := (HB.out.cell (World.block_lt_of_cell? w _ hx0)).trans hx0
      replace hx1 := (HB.out.cell (World.block_lt_of_cell? w _ hx1)).trans hx1
      replace hx2 := (HB.out.cell (World.block_lt_of_cell? w _ hx2)).trans hx2
      rw [rdM_nat9 l kk hlt, Int.toNat_natCast] at hx0 hx1 hx2
      have hcall := HP.out wr l[kk] (List.getElem_mem hlt) HB.out
      generalize l[kk] = y at hx0 hx1 hx2 hcall ha
      clear HA
      cases hq : p y with
      | true =>
        rw [hq] at hcall ha
        rw [if_pos rfl] at ha
        have HA := Aside0.mk ha
        have HC := Aside0.mk hcall
        clear hcall ha hq
        go_wp2_with (go_at_fn g; refine HC.out.mono ?_; rintro e w' ⟨rfl, hb'⟩)
        go_ret
        exact ⟨by rw [← HA.out]; rfl, HB.out.trans (hb'.mono HB.out.size)⟩
      | false =>
        rw [hq] at hcall ha
        rw [if_neg (by decide)] at ha
        have HA := Aside0.mk ha
        have HC := Aside0.mk hcall
        clear hcall ha hq
        go_wp2_with (go_at_fn g; refine HC.out.mono ?_; rintro e w' ⟨rfl, hb'⟩)
        go_roundg g1
        case measure => omega
        case rel => exact ⟨kk + 1, by omega, by go_num, ⟨HB.out.trans (hb'.mono HB.out.size)⟩, HA⟩
    · have hlti : ¬ (kk : Int) < (l.length : Int) := by omega
      have ha := HA.out
      rw [List.drop_of_length_le (by omega)] at ha
      have HA := Aside0.mk ha
      clear ha
      go_wp2
      go_ret
      exact ⟨by rw [← HA.out]; rfl, HB.out⟩
theorem idxM_any (p : S42 → Bool) : ∀ (l : List S42) (i : Nat), 0 ≤ idxM p i l ↔ l.any p = true
  | [], _ => by simp [idxM]
  | x :: l, i => by
    unfold idxM
    rw [List.any_cons]
    by_cases h : p x = true
    · rw [if_pos h, h]; simp
    · rw [if_neg h, Bool.eq_false_iff.2 h, Bool.false_or]; exact idxM_any p l (i + 1)
set_option maxHeartbeats 8000000 in
set_option maxRecDepth 100000 in
theorem match_c (A0 : Option Addr) (c0 : Nat) (l0 : List S58) (A1 : Option Addr) (c1 : Nat) (l1 : List S42) (w : World) (hl : l0.length ≤ 1000000) (hr0 : Kd.C k58 w A0 l0.length l0) (hc0 : l0.length ≤ c0) (hr1 : Kd.C k42 w A1 l1.length l1) (hc1 : l1.length ≤ c1) (hok : ∀ x ∈ l1, OkH x.f0 x.f2 (getP l0 x.f1).1 w) :
    Calls Try.prog 22 #[.slice A0 l0.length c0, .slice A1 l1.length c1] w fun e w' => e = .returned (.bool (matchR l0 l1)) ∧ Below w.heap.size w w' := by
  have hb := below_alloc (Below.refl w.heap.size w) (.cells #[.slice A0 l0.length c0] 22)
  have hbx := blk_new w (.cells #[.slice A0 l0.length c0] 22)
  have hi := indexFunc_c 35 #[.pointer (some ⟨w.heap.size, 0, none⟩)] (missB l0) A1 c1 l1 (w.alloc (.cells #[.slice A0 l0.length c0] 22)) (Kd.C_below hr1 hb) hc1
    (fun W x hx hbW => miss_c l0 hl x A0 c0 w.heap.size W (Kd.C_below (Kd.C_below hr0 hb) hbW) hc0 ((hbW.cell (World.block_lt_of_cell? _ _ ((blk_cell hbx 0).trans rfl))).trans ((blk_cell hbx 0).trans rfl)) (((hok x hx).below hb).below hbW)) (enters_of Try.func35 (by kernel_rfl) rfl)
  have ha : decide (0 ≤ idxM (missB l0) 0 l1) = l1.any (missB l0) := by rw [Bool.eq_iff_iff, decide_eq_true_iff]; exact idxM_any _ _ _
  have hm : matchR l0 l1 = !(l1.any (missB l0)) := by unfold matchR; rw [List.any_eq_not_all_not]; simp
  rw [hm, ← ha]
  have HI := Aside0.mk hi
  have HB := Aside0.mk hb
  clear hi hb hbx hok hr0 hr1 ha hm
  go_enter Try.func22, Try.ntmps22
  go_wp2_with (first | (go_at_call 50; ((with_reducible refine HI.out.mono ?_); rintro e w1 ⟨rfl, hb⟩; replace HB := Aside0.mk (below_then HB.out HB.out.size hb); clear hb)) | go_in)
  go_ret
  exact ⟨rfl, HB.out⟩
theorem byte1 (t : ByteArray) (h : t.size = 1) : ∃ c, t = ⟨#[c]⟩ := by
  obtain ⟨a⟩ := t
  obtain ⟨l⟩ := a
  have h' : l.length = 1 := h
  match l, h' with
  | [c], _ => exact ⟨c, rfl⟩
def labels_Match.f (l : List S58) (m : List S42) : Option Bool := if l.length ≤ 1000000 ∧ ∀ x ∈ m, x.f0 = 3 → x.f2.size = 1 then some (matchR l m) else none
theorem labels_Match.calls (A0 : Option Addr) (c0 : Nat) (l0 : List S58) (A1 : Option Addr) (c1 : Nat) (l1 : List S42) (r : Bool) (w : World) (hr0 : Kd.C k58 w A0 l0.length l0) (hc0 : l0.length ≤ c0) (hr1 : Kd.C k42 w A1 l1.length l1) (hc1 : l1.length ≤ c1) (h : labels_Match.f l0 l1 = some r) :
    Calls Try.prog 22 #[.slice A0 l0.length c0, .slice A1 l1.length c1] w fun e w' => e = .returned (.bool r) ∧ Below w.heap.size w w' := by
  unfold labels_Match.f at h
  by_cases hs : l0.length ≤ 1000000 ∧ ∀ x ∈ l1, x.f0 = 3 → x.f2.size = 1
  rotate_left
  · rw [if_neg hs] at h; cases h
  rw [if_pos hs] at h
  injection h with h
  subst h
  exact match_c A0 c0 l0 A1 c1 l1 w hs.1 hr0 hc0 hr1 hc1 (fun x hx hk => .inl (byte1 _ (hs.2 x hx hk)))
end Go.Proofs.Ytbfiacnmielajaa.P
namespace Go.Proofs.Ytbfiacnmielajaa.P
open Go.RowKit Go.Proofs.YtbfiacnmielajaaW.PrintWords Go.Proofs.YtbfiacnmielajaaW.PrintLast Go.Proofs.YtbfiacnmielajaaW.PrintMore
attribute [local go_sem] max2_int min2_int max_two min_two max_three min_three max_four min_four
set_option linter.unusedVariables false
set_option linter.unusedSimpArgs false
def cmpB (a b : ByteArray) : Int := Lib.compareBytes a.data.toList b.data.toList
theorem strCmp_c (a b : ByteArray) (w : World) : Calls Try.prog 41 #[.string a, .string b] w fun e w' => e = .returned (.int .i64 (cmpB a b)) ∧ w = w' :=
  (Any.strings_Compare lay106 a b w).mono fun e w' h => ⟨h.1, h.2.symm⟩
def or2 (a b : Int) : Int := if a = 0 then b else a
set_option maxHeartbeats 4000000 in
set_option maxRecDepth 100000 in
theorem or2_c (a b : Int) (blk c : Nat) (w : World) (h0 : w.cell? ⟨blk, 0, none⟩ = some (.int .i64 a)) (h1 : w.cell? ⟨blk, 1, none⟩ = some (.int .i64 b)) (hc : 2 ≤ c) :
    Calls Try.prog 40 #[.slice (some ⟨blk, 0, none⟩) 2 c] w fun e w' => e = .returned (.int .i64 (or2 a b)) ∧ w = w' := by
  unfold or2
  by_cases ha : a = 0
  · rw [if_pos ha]
    subst ha
    by_cases hb : b = 0
    · subst hb
      go_enter Try.func40, Try.ntmps40
      go_wp2
      go_loopg [8, 5] 2 (fun gg v8 _ wr => ∃ (x : Int), x + (gg : Int) = 2 ∧ 0 ≤ x ∧ x ≤ 2 ∧ v8 = .int .i64 x ∧ w = wr)
      case atStart => exact ⟨0, by omega, by omega, by omega, rfl, rfl⟩
      case round =>
        obtain ⟨x, hi, hx, hl, rfl, rfl⟩ := hrel
        cases gk with
        | zero =>
          obtain rfl : x = 2 := by omega
          clear hx hi hl
          go_wp2
          go_ret
          exact ⟨rfl, rfl⟩
        | succ g =>
          obtain rfl | rfl : x = 0 ∨ x = 1 := by omega
          · clear hx hl
            go_wp2
            go_roundg g
            case measure => omega
            case rel => exact ⟨_, by omega, by omega, by omega, rfl, rfl⟩
          · clear hx hl
            go_wp2
            go_roundg g
            case measure => omega
            case rel => exact ⟨_, by omega, by omega, by omega, rfl, rfl⟩
    · have hb' : (b != 0) = true := bne_iff_ne.2 hb
      go_enter Try.func40, Try.ntmps40
      go_wp2
      go_loopg [8, 5] 2 (fun gg v8 _ wr => ∃ (x : Int), x + (gg : Int) = 2 ∧ 0 ≤ x ∧ x ≤ 1 ∧ v8 = .int .i64 x ∧ w = wr)
      case atStart => exact ⟨0, by omega, by omega, by omega, rfl, rfl⟩
      case round =>
        obtain ⟨x, hi, hx, hl, rfl, rfl⟩ := hrel
        cases gk with
        | zero => exact absurd hl (by omega)
        | succ g =>
          obtain rfl | rfl : x = 0 ∨ x = 1 := by omega
          · clear hx hl
            go_wp2
            go_roundg g
            case measure => omega
            case rel => exact ⟨_, by omega, by omega, by omega, rfl, rfl⟩
          · clear hx hl
            go_wp2
            go_ret
            exact ⟨rfl, rfl⟩
  · rw [if_neg ha]
    have ha' : (a != 0) = true := bne_iff_ne.2 ha
    go_enter Try.func40, Try.ntmps40
    go_wp2
    go_loopg [8, 5] 2 (fun gg v8 _ wr => ∃ (x : Int), x + (gg : Int) = 2 ∧ 0 ≤ x ∧ x ≤ 0 ∧ v8 = .int .i64 x ∧ w = wr)
    case atStart => exact ⟨0, by omega, by omega, by omega, rfl, rfl⟩
    case round =>
      obtain ⟨x, hi, hx, hl, rfl, rfl⟩ := hrel
      cases gk with
      | zero => exact absurd hl (by omega)
      | succ g =>
        obtain rfl | rfl : x = 0 ∨ x = 1 := by omega
        · clear hx hl
          go_wp2
          go_ret
          exact ⟨rfl, rfl⟩
        · exact absurd hl (by omega)
def cmpL1 (x y : S58) : Int := or2 (cmpB x.f0 y.f0) (cmpB x.f1 y.f1)
set_option maxHeartbeats 8000000 in
set_option maxRecDepth 100000 in
theorem cmpFn_c (x y : S58) (w : World) : Calls Try.prog 39 #[.agg #[.string x.f0, .string x.f1], .agg #[.string y.f0, .string y.f1]] w fun e w' => e = .returned (.int .i64 (cmpL1 x y)) ∧ Below w.heap.size w w' := by
  obtain ⟨n, v⟩ := x
  obtain ⟨m, u⟩ := y
  have hu := Try.underlying58
  dsimp only
  unfold cmpL1
  dsimp only
  go_enter Try.func39, Try.ntmps39
  have hb0 := blk_new w (.cells #[.string n, .string v] 58)
  have hb1 : ((w.alloc (.cells #[.string n, .string v] 58)).alloc (.cells #[.string m, .string u] 58)).heap[w.heap.size + 1]? = some (.cells #[.string m, .string u] 58 (0, 0)) := by simpa using blk_new (w.alloc (.cells #[.string n, .string v] 58)) (.cells #[.string m, .string u] 58)
  have B0 := Aside0.mk (blk_alloc hb0 (.cells #[.string m, .string u] 58))
  have B1 := Aside0.mk hb1
  have HB := Aside0.mk (below_alloc (below_alloc (Below.refl w.heap.size w) (.cells #[.string n, .string v] 58)) (.cells #[.string m, .string u] 58))
  clear hb0 hb1
  go_wp2
  generalize (w.alloc (.cells #[.string n, .string v] 58)).alloc (.cells #[.string m, .string u] 58) = W at B0 B1 HB ⊢
  replace HB := Aside0.mk (below_drew1 HB.out)
  replace B0 : Aside0 (W.drew.heap[w.heap.size]? = some (.cells #[.string n, .string v] 58 (0, 0))) := ⟨B0.out⟩
  replace B1 : Aside0 (W.drew.heap[w.heap.size + 1]? = some (.cells #[.string m, .string u] 58 (0, 0))) := ⟨B1.out⟩
  have HN := Aside0.mk (strCmp_c n m)
  have HV := Aside0.mk (strCmp_c v u)
  go_region_held3 (fun X => X.cell? ⟨w.heap.size, 0, none⟩ = some (.string n) ∧ X.cell? ⟨w.heap.size, 1, none⟩ = some (.string v) ∧ X.cell? ⟨w.heap.size + 1, 0, none⟩ = some (.string m) ∧ X.cell? ⟨w.heap.size + 1, 1, none⟩ = some (.string u)) (first | exact ⟨(blk_cell B0.out 0).trans rfl, (blk_cell B0.out 1).trans rfl, (blk_cell B1.out 0).trans rfl, (blk_cell B1.out 1).trans rfl⟩ | exact ⟨(blk_cell (blk_alloc B0.out _) 0).trans rfl, (blk_cell (blk_alloc B0.out _) 1).trans rfl, (blk_cell (blk_alloc B1.out _) 0).trans rfl, (blk_cell (blk_alloc B1.out _) 1).trans rfl⟩) (first | (go_at_call 41; (with_reducible refine (HN.out _).mono ?_); rintro e w1 ⟨rfl, rfl⟩) | (go_at_call 41; (with_reducible refine (HV.out _).mono ?_); rintro e w1 ⟨rfl, rfl⟩) | (go_at_call 40; (refine (or2_c (cmpB n m) (cmpB v u) W.drew.heap.size 2 _ ((blk_cell (blk_new _ _) 0).trans rfl) ((blk_cell (blk_new _ _) 1).trans rfl) (Nat.le_refl _)).mono ?_); rintro e w1 ⟨rfl, rfl⟩))
  all_goals go_wp2
  all_goals go_ret
  all_goals exact ⟨rfl, below_alloc HB.out _⟩
theorem rdL_nat (l : List S58) (i : Nat) (h : i < l.length) : rd_T58 l (i : Int) = l[i] := by unfold rd_T58; simp [List.getD, h]
def compR : List S58 → List S58 → Int
  | [], [] => 0
  | [], _ :: _ => -1
  | _ :: _, [] => 1
  | x :: a, y :: b => if cmpL1 x y = 0 then compR a b else cmpL1 x y
def labels_Compare.f (a b : List S58) : Option Int := some (compR a b)
set_option maxHeartbeats 8000000 in
set_option maxRecDepth 100000 in
theorem compareFunc_c (A0 : Option Addr) (c0 : Nat) (l0 : List S58) (A1 : Option Addr) (c1 : Nat) (l1 : List S58) (w : World) (hr0 : Kd.C k58 w A0 l0.length l0) (hc0 : l0.length ≤ c0) (hr1 : Kd.C k58 w A1 l1.length l1) (hc1 : l1.length ≤ c1) :
    Calls Try.prog 38 #[.slice A0 l0.length c0, .slice A1 l1.length c1, .func (.func 39) #[] #[]] w fun e w' => e = .returned (.int .i64 (compR l0 l1)) ∧ Below w.heap.size w w' := by
  have hm0 : l0.length ≤ 9223372036854775807 := hr0.2.1
  have hm1 : l1.length ≤ 9223372036854775807 := hr1.2.1
  have HR := Aside0.mk hr0
  have HS := Aside0.mk hr1
  have hu := Try.underlying58
  clear hr0 hr1
  go_enter Try.func38, Try.ntmps38
  go_wp2
  go_loopg [13, 7, 10] l0.length (fun gg v13 _ _ wr => ∃ (i : Nat), i + gg = l0.length ∧ i ≤ l1.length ∧ v13 = .int .i64 i ∧ Aside0 (Below w.heap.size w wr) ∧ Aside0 (compR (l0.drop i) (l1.drop i) = compR l0 l1))
  case atStart => exact ⟨0, by omega, Nat.zero_le _, rfl, ⟨Below.refl _ _⟩, ⟨rfl⟩⟩
  case round =>
    obtain ⟨i, hi, hi1, rfl, HB, HC⟩ := hrel
    cases gk with
    | zero =>
      have hc := HC.out
      rw [List.drop_of_length_le (show l0.length ≤ i by omega)] at hc
      have d0 : decide ((i : Int) < (l0.length : Int)) = false := decide_eq_false (by omega)
      have d0n : decide (i < l0.length) = false := decide_eq_false (by omega)
      by_cases hl : l0.length < l1.length
      · have d1 : decide ((l0.length : Int) < (l1.length : Int)) = true := decide_eq_true (by omega)
        have d1n : decide (l0.length < l1.length) = true := decide_eq_true hl
        rw [List.drop_eq_getElem_cons (show i < l1.length by omega)] at hc
        have hc' : (-1 : Int) = compR l0 l1 := hc
        replace HC := Aside0.mk hc'
        clear hc'
        clear hc hi hi1
        go_wp2
        go_ret
        exact ⟨by rw [← HC.out]; rfl, HB.out⟩
      · have d1 : decide ((l0.length : Int) < (l1.length : Int)) = false := decide_eq_false (by omega)
        have d1n : decide (l0.length < l1.length) = false := decide_eq_false hl
        rw [List.drop_of_length_le (show l1.length ≤ i by omega)] at hc
        have HC := Aside0.mk hc
        clear hc hi hi1
        go_wp2
        go_ret
        exact ⟨by rw [← HC.out]; rfl, HB.out⟩
    | succ g1 =>
      have hlt : i < l0.length := by omega
      have hc := HC.out
      rw [List.drop_eq_getElem_cons hlt] at hc
      obtain ⟨ad, e1, hx0, hx1⟩ := at_T58 HR.out (i : Int) (by omega) (by omega)
      cases e1
      replace hx0 := (HB.out.cell (World.block_lt_of_cell? w _ hx0)).trans hx0
      replace hx1 := (HB.out.cell (World.block_lt_of_cell? w _ hx1)).trans hx1
      rw [rdL_nat l0 i hlt, Int.toNat_natCast] at hx0 hx1
      have d0 : decide ((i : Int) < (l0.length : Int)) = true := decide_eq_true (by omega)
      have d0n : decide (i < l0.length) = true := decide_eq_true hlt
      have p0 : (0 ≤ (i : Int)) = True := eq_true (by omega)
      by_cases hl1 : i < l1.length
      · obtain ⟨bd, e2, hy0, hy1⟩ := at_T58 HS.out (i : Int) (by omega) (by omega)
        cases e2
        replace hy0 := (HB.out.cell (World.block_lt_of_cell? w _ hy0)).trans hy0
        replace hy1 := (HB.out.cell (World.block_lt_of_cell? w _ hy1)).trans hy1
        rw [rdL_nat l1 i hl1, Int.toNat_natCast] at hy0 hy1
        rw [List.drop_eq_getElem_cons hl1] at hc
        have d1 : decide ((l1.length : Int) ≤ (i : Int)) = false := decide_eq_false (by omega)
        have d1n : decide (l1.length ≤ i) = false := decide_eq_false (by omega)
        have hcell := cmpFn_c l0[i] l1[i]
        simp only [compR] at hc
        generalize l0[i] = x at *
        generalize l1[i] = y at *
        have HF := Aside0.mk hcell
        clear hcell HC
        have hbx := HB.out
        have lx0 := World.block_lt_of_cell? _ _ hx0
        have ly0 := World.block_lt_of_cell? _ _ hy0
        by_cases hz : cmpL1 x y = 0
        · rw [if_pos hz] at hc
          rw [hz] at HF
          have HC := Aside0.mk hc
          clear hc hz hbx
          go_wp2_with (go_at_call 39; (with_reducible refine (HF.out _).mono ?_); rintro e w1 ⟨rfl, hb⟩; have HB1 := Aside0.mk (below_then (below_alloc (below_alloc HB.out (.cells #[.string x.f0, .string x.f1] 58)) (.cells #[.string y.f0, .string y.f1] 58)) (by have := HB.out.size; simp; omega) hb); clear hb)
          go_roundg g1
          case measure => omega
          case rel => exact ⟨i + 1, by omega, by omega, by go_num, HB1, HC⟩
        · rw [if_neg hz] at hc
          have dz : (cmpL1 x y != 0) = true := bne_iff_ne.2 hz
          have HC := Aside0.mk hc
          clear hc hz hbx
          go_wp2_with (go_at_call 39; (with_reducible refine (HF.out _).mono ?_); rintro e w1 ⟨rfl, hb⟩; have HB1 := Aside0.mk (below_then (below_alloc (below_alloc HB.out (.cells #[.string x.f0, .string x.f1] 58)) (.cells #[.string y.f0, .string y.f1] 58)) (by have := HB.out.size; simp; omega) hb); clear hb)
          go_ret
          exact ⟨by rw [← HC.out]; rfl, HB1.out⟩
      · have d1 : decide ((l1.length : Int) ≤ (i : Int)) = true := decide_eq_true (by omega)
        have d1n : decide (l1.length ≤ i) = true := decide_eq_true (by omega)
        rw [List.drop_of_length_le (show l1.length ≤ i by omega)] at hc
        have HC1 := Aside0.mk hc
        clear hc hl1 HC
        have HB1 := Aside0.mk (below_alloc HB.out (.cells #[.string (l0[i]).f0, .string (l0[i]).f1] 58))
        go_wp2
        go_ret
        exact ⟨by rw [← HC1.out]; rfl, HB1.out⟩
set_option maxHeartbeats 4000000 in
set_option maxRecDepth 100000 in
theorem labels_Compare.calls (A0 : Option Addr) (c0 : Nat) (l0 : List S58) (A1 : Option Addr) (c1 : Nat) (l1 : List S58) (r : Int) (w : World) (hr0 : Kd.C k58 w A0 l0.length l0) (hc0 : l0.length ≤ c0) (hr1 : Kd.C k58 w A1 l1.length l1) (hc1 : l1.length ≤ c1) (h : labels_Compare.f l0 l1 = some r) :
    Calls Try.prog 24 #[.slice A0 l0.length c0, .slice A1 l1.length c1] w fun e w' => e = .returned (.int .i64 r) ∧ Below w.heap.size w w' := by
  injection h with h
  subst h
  have HF := Aside0.mk (compareFunc_c A0 c0 l0 A1 c1 l1 w hr0 hc0 hr1 hc1)
  clear hr0 hr1
  go_enter Try.func24, Try.ntmps24
  go_wp2_with (go_at_call 38; (with_reducible refine HF.out.mono ?_); rintro e w1 ⟨rfl, hb⟩; have HB := Aside0.mk hb; clear hb)
  go_ret
  exact ⟨rfl, HB.out⟩
end Go.Proofs.Ytbfiacnmielajaa.P
namespace Go.Proofs.Ytbfiacnmielajaa.P
open Go.RowKit Go.Proofs.YtbfiacnmielajaaW.PrintWords Go.Proofs.YtbfiacnmielajaaW.PrintLast Go.Proofs.YtbfiacnmielajaaW.PrintMore
set_option linter.unusedVariables false
set_option linter.unusedSimpArgs false
def lc : List S58 := [⟨⟨#[106, 111, 98]⟩, ⟨#[97, 112, 105]⟩⟩, ⟨⟨#[122, 111, 110, 101]⟩, ⟨#[97, 34, 98]⟩⟩]
def tc : ByteArray := ⟨#[123, 106, 111, 98, 61, 34, 97, 112, 105, 34, 44, 122, 111, 110, 101, 61, 34, 97, 92, 34, 98, 34, 125]⟩
def sc : ByteArray := ⟨#[123, 122, 111, 110, 101, 42, 61, 34, 98, 34, 44, 106, 111, 98, 33, 61, 34, 120, 34, 125]⟩
def mc : List S42 := [⟨3, ⟨#[122, 111, 110, 101]⟩, ⟨#[98]⟩⟩, ⟨1, ⟨#[106, 111, 98]⟩, ⟨#[120]⟩⟩]
theorem tc_eq : labels_Text.f 50 lc = some (tc, 0) := by kernel_rfl
theorem pc_eq : labels_Parse.f 50 tc = some (lc, 0) := by kernel_rfl
theorem mc_eq : labels_ParseMatchers.f sc = some (mc, 0) := by kernel_rfl
theorem bc_eq : labels_Parse.f 50 ⟨#[123, 98, 61, 34, 34, 44, 97, 61, 34, 34, 125]⟩ = some ([], 10) := by kernel_rfl
theorem gc_eq : labels_Get.f 50 lc ⟨#[106, 111, 98]⟩ = some (⟨#[97, 112, 105]⟩, true) := by kernel_rfl
theorem hc_eq : labels_Match.f lc mc = some true := by kernel_rfl
theorem cc_eq : labels_Compare.f lc [⟨⟨#[106, 111, 98]⟩, ⟨#[97, 112, 105]⟩⟩] = some 1 := by kernel_rfl
theorem kc_eq : labels_Check.f 50 [⟨⟨#[]⟩, ⟨#[]⟩⟩] = some 10 := by kernel_rfl
theorem C_head {W : World} {a : Addr} {n : Nat} {x : S58} {l : List S58} (h : Kd.C k58 W (some a) n (x :: l)) : Kd.C k58 W (some a) 1 [x] := by
  obtain ⟨h1, h2, h3⟩ := h
  obtain ⟨b, e, hb⟩ := h3 (by rw [← h1]; simp)
  cases e
  refine ⟨rfl, by decide, fun _ => ⟨a, rfl, fun j p hj => hb j p ?_⟩⟩
  cases j with
  | zero => exact hj
  | succ j => simp at hj
theorem C_fresh {W : World} {b : Nat} {x : S58} {t : TypeId} (h : W.heap[b]? = some (.cells #[.string x.f0, .string x.f1] t (0, 0))) : Kd.C k58 W (some ⟨b, 0, none⟩) 1 [x] := by
  refine ⟨rfl, by decide, fun _ => ⟨_, rfl, fun j p hj => ?_⟩⟩
  cases j with
  | succ j => simp at hj
  | zero =>
    obtain rfl : x = p := by simpa using hj
    refine ⟨[.string x.f0, .string x.f1], rfl, k58_mk W x, fun i u hu => ?_⟩
    match i, hu with
    | 0, hu => exact (blk_cell h 0).trans hu
    | 1, hu => exact (blk_cell h 1).trans hu
    | i + 2, hu => simp at hu
theorem cells4 {W : World} {a1 a3 : Addr} {n m : Nat} (h : Kd.C k58 W (some a1) n lc) (k : Kd.C k58 W (some a3) m lc) : W.cell? ⟨a1.block, a1.off + 2, none⟩ = some (.string (⟨#[122, 111, 110, 101]⟩ : ByteArray)) ∧ W.cell? ⟨a1.block, a1.off + 2 + 1, none⟩ = some (.string (⟨#[97, 34, 98]⟩ : ByteArray)) ∧ W.cell? ⟨a3.block, a3.off + 2, none⟩ = some (.string (⟨#[122, 111, 110, 101]⟩ : ByteArray)) ∧ W.cell? ⟨a3.block, a3.off + 2 + 1, none⟩ = some (.string (⟨#[97, 34, 98]⟩ : ByteArray)) := by
  have hn : n = 2 := h.1.symm.trans rfl
  have hm : m = 2 := k.1.symm.trans rfl
  obtain ⟨b1, e1, hx0, hx1⟩ := at_T58 h 1 (by decide) (by omega)
  obtain ⟨b3, e3, hy0, hy1⟩ := at_T58 k 1 (by decide) (by omega)
  cases e1
  cases e3
  exact ⟨hx0, hx1, hy0, hy1⟩
theorem mc_eq2 : labels_ParseMatchers.f ⟨#[123, 122, 111, 110, 101, 42, 61, 34, 98, 34, 44, 106, 111, 98, 33, 61, 34, 120, 34, 125]⟩ = some (mc, 0) := mc_eq
set_option maxHeartbeats 16000000 in
set_option maxRecDepth 100000 in
theorem awake_c (w : World) : Calls Try.prog 11 #[] w fun e w' => e = .returned (.bool true) ∧ Below w.heap.size w w' := by
  have huL := Try.underlying58
  have htc : (⟨#[123, 106, 111, 98, 61, 34, 97, 112, 105, 34, 44, 122, 111, 110, 101, 61, 34, 97, 92, 34, 98, 34, 125]⟩ : ByteArray) = tc := rfl
  go_enter Try.func11, Try.ntmps11
  go_wp2_with (first | ((with_reducible refine gate_dst (N := 14) rfl ?_); refine Kd.R_lit k58 _ 58 ?hg (N := 14) ?hd (xs := lc) (inner := [.string (⟨#[106, 111, 98]⟩ : ByteArray), .string (⟨#[97, 112, 105]⟩ : ByteArray), .string (⟨#[122, 111, 110, 101]⟩ : ByteArray), .string (⟨#[97, 34, 98]⟩ : ByteArray)]) (ok := fun _ => True) (okp := fun _ => True) ?hr ?hp (fun _ hk => hk) trivial (Below.refl _ _) (Nat.le_refl _) (by simp [lc]) ?_; (case hd => rfl); (case hg => rfl); (case hr => first | (go_simp; done) | (go_simp; rfl)); (case hp => exact (Reps.c2 (show Kd.M k58 _ _ _ (⟨(⟨#[106, 111, 98]⟩ : ByteArray), (⟨#[97, 112, 105]⟩ : ByteArray)⟩ : S58) [.string (⟨#[106, 111, 98]⟩ : ByteArray), .string (⟨#[97, 112, 105]⟩ : ByteArray)] from (k58_mkM _ _ _ _)) (Reps.c2 (show Kd.M k58 _ _ _ (⟨(⟨#[122, 111, 110, 101]⟩ : ByteArray), (⟨#[97, 34, 98]⟩ : ByteArray)⟩ : S58) [.string (⟨#[122, 111, 110, 101]⟩ : ByteArray), .string (⟨#[97, 34, 98]⟩ : ByteArray)] from (k58_mkM _ _ _ _)) (Reps.none _ _)))); intro v102 w1 ho hb hg_ hnew_; clear hg_ hnew_; have HO := Aside0.mk ho; have HB := Aside0.mk hb; clear hb ho; obtain ⟨A1, c1, rfl⟩ := Kd.R_slice HO.out) | (go_at_call 13; ((with_reducible refine (labels_Text.calls 50 A1 c1 lc tc 0 _ (Kd.R_reads' HO.out).2.2 (Kd.R_reads' HO.out).2.1 tc_eq).mono ?_); rintro e w2 ⟨rfl, hb⟩; replace HO := Aside0.mk (Kd.R_below HO.out hb); replace HB := Aside0.mk (below_then HB.out HB.out.size hb); clear hb)) | (go_at_call 15; ((with_reducible refine (labels_Parse.calls 50 tc lc 0 _ pc_eq).mono ?_); rintro e w3 ⟨v3, rfl, hp, hb⟩; have hsz := HB.out.size; replace HO := Aside0.mk (Kd.R_below HO.out hb); replace HB := Aside0.mk (below_then HB.out HB.out.size hb); have HP := Aside0.mk (Kd.R_lower hp hsz); clear hp hb hsz; obtain ⟨A3, c3, rfl⟩ := Kd.R_slice HP.out)) | (go_at_call 18; ((with_reducible refine (labels_ParseMatchers.calls _ mc 0 _ mc_eq2).mono ?_); rintro e w5 ⟨v5, rfl, hm, hb⟩; have hsz := HB.out.size; replace HO := Aside0.mk (Kd.R_below HO.out hb); replace HP := Aside0.mk (Kd.R_below HP.out hb); replace HB := Aside0.mk (below_then HB.out HB.out.size hb); have HM := Aside0.mk (Kd.R_lower hm hsz); clear hm hb hsz; obtain ⟨A5, c5, rfl⟩ := Kd.R_slice HM.out)) | (go_at_call 15; ((with_reducible refine (labels_Parse.calls 50 _ [] 10 _ bc_eq).mono ?_); rintro e w4 ⟨v4, rfl, hp, hb⟩; replace HO := Aside0.mk (Kd.R_below HO.out hb); replace HP := Aside0.mk (Kd.R_below HP.out hb); replace HM := Aside0.mk (Kd.R_below HM.out hb); replace HB := Aside0.mk (below_then HB.out HB.out.size hb); clear hp hb)) | (go_at_call 20; ((with_reducible refine (labels_Get.calls 50 A1 c1 lc _ _ true _ (Kd.R_reads' HO.out).2.2 (Kd.R_reads' HO.out).2.1 gc_eq).mono ?_); rintro e w6 ⟨rfl, hb⟩; replace HO := Aside0.mk (Kd.R_below HO.out hb); replace HP := Aside0.mk (Kd.R_below HP.out hb); replace HM := Aside0.mk (Kd.R_below HM.out hb); replace HB := Aside0.mk (below_then HB.out HB.out.size hb); clear hb)))
  have hc1 : 2 ≤ c1 := (Kd.R_reads' HO.out).2.1
  obtain ⟨a1, e1, hx0, hx1⟩ := at_T58 (Kd.R_reads' HO.out).2.2 1 (by decide) (by decide)
  obtain ⟨a3, e3, hy0, hy1⟩ := at_T58 (Kd.R_reads' HP.out).2.2 1 (by decide) (by decide)
  subst e1
  subst e3
  have HX := Aside0.mk (And.intro hx0 hx1)
  clear hx0 hx1 hy0 hy1
  have hc1i : (1 : Int) ≤ (c1 : Int) := by omega
  have hc1d : decide ((1 : Int) ≤ (c1 : Int)) = true := decide_eq_true hc1i
  rw [show lc.length = 2 from rfl]
  replace HO := Aside0.mk (Kd.R_drew HO.out)
  replace HP := Aside0.mk (Kd.R_drew HP.out)
  replace HM := Aside0.mk (Kd.R_drew HM.out)
  replace HB := Aside0.mk (below_drew1 HB.out)
  go_region_held3 (fun W => W.cell? ⟨a1.block, a1.off + 2, none⟩ = some (.string (⟨#[122, 111, 110, 101]⟩ : ByteArray)) ∧ W.cell? ⟨a1.block, a1.off + 2 + 1, none⟩ = some (.string (⟨#[97, 34, 98]⟩ : ByteArray)) ∧ W.cell? ⟨a3.block, a3.off + 2, none⟩ = some (.string (⟨#[122, 111, 110, 101]⟩ : ByteArray)) ∧ W.cell? ⟨a3.block, a3.off + 2 + 1, none⟩ = some (.string (⟨#[97, 34, 98]⟩ : ByteArray))) (first | exact cells4 (Kd.R_reads' HO.out).2.2 (Kd.R_reads' HP.out).2.2 | exact cells4 (Kd.R_reads' (Kd.R_alloc HO.out _)).2.2 (Kd.R_reads' (Kd.R_alloc HP.out _)).2.2) (first | (go_at_call 22; ((refine (labels_Match.calls (some a1) c1 lc A5 c5 mc true _ (Kd.R_reads' HO.out).2.2 (Kd.R_reads' HO.out).2.1 (Kd.R_reads' HM.out).2.2 (Kd.R_reads' HM.out).2.1 hc_eq).mono ?_); rintro e w6 ⟨rfl, hb⟩; replace HO := Aside0.mk (Kd.R_below HO.out hb); replace HP := Aside0.mk (Kd.R_below HP.out hb); replace HM := Aside0.mk (Kd.R_below HM.out hb); replace HB := Aside0.mk (below_then HB.out HB.out.size hb); clear hb)) | (go_at_call 24; ((refine (labels_Compare.calls (some a1) c1 lc (some a1) c1 [⟨(⟨#[106, 111, 98]⟩ : ByteArray), (⟨#[97, 112, 105]⟩ : ByteArray)⟩] 1 _ (Kd.R_reads' HO.out).2.2 (Kd.R_reads' HO.out).2.1 (C_head (Kd.R_reads' HO.out).2.2) (by simp; omega) cc_eq).mono ?_); rintro e w7 ⟨rfl, hb⟩; replace HO := Aside0.mk (Kd.R_below HO.out hb); replace HP := Aside0.mk (Kd.R_below HP.out hb); replace HM := Aside0.mk (Kd.R_below HM.out hb); replace HB := Aside0.mk (below_then HB.out HB.out.size hb); clear hb)) | (go_at_call 14; ((refine (labels_Check.calls 50 _ 1 [⟨⟨#[]⟩, ⟨#[]⟩⟩] 10 _ (C_fresh (blk_new _ _)) (by simp) kc_eq).mono ?_); rintro e w8 ⟨rfl, hb⟩; replace HO := Aside0.mk (Kd.R_below (Kd.R_alloc HO.out _) hb); replace HP := Aside0.mk (Kd.R_below (Kd.R_alloc HP.out _) hb); replace HB := Aside0.mk (below_then (below_alloc HB.out _) (below_alloc HB.out _).size hb); clear hb)))
  all_goals go_wp2
  all_goals go_ret
  all_goals exact ⟨rfl, HB.out⟩
def tidepolelaw30_awake.f : Option Bool := some true
theorem tidepolelaw30_awake.calls (r : Bool) (w : World) (h : tidepolelaw30_awake.f = some r) : Calls Try.prog 11 #[] w fun e w' => e = .returned (.bool r) ∧ Below w.heap.size w w' := by
  injection h with h
  subst h
  exact awake_c w
end Go.Proofs.Ytbfiacnmielajaa.P
namespace Go.Proofs.Ytbfiacnmielajaa.P
open Go.RowKit Go.Proofs.YtbfiacnmielajaaW.PrintWords Go.Proofs.YtbfiacnmielajaaW.PrintLast Go.Proofs.YtbfiacnmielajaaW.PrintMore
attribute [local go_sem] max2_int min2_int max_two min_two max_three min_three max_four min_four
set_option linter.unusedVariables false
set_option linter.unusedSimpArgs false
def chk (c : Int) (first : Bool) : Bool := if 48 ≤ c ∧ c ≤ 57 then !first else decide (c = 95) || (decide (97 ≤ c ∧ c ≤ 122) || decide (65 ≤ c ∧ c ≤ 90))
def nameL (s : ByteArray) : Nat → Nat → Bool
  | 0, _ => true
  | d + 1, i => chk (bt s (i : Int)) (decide (i = 0)) && nameL s d (i + 1)
def nameR (s : ByteArray) : Bool := decide (1 ≤ s.size) && (decide (s.size ≤ 40) && nameL s s.size 0)
theorem cls (c : Int) (f : Bool) :
    (decide (48 ≤ c) = true ∧ decide (c ≤ 57) = true ∧ chk c f = !f) ∨
    (decide (48 ≤ c) = false ∧ (c != 95) = true ∧ decide (c < 97) = true ∧ decide (c < 65) = true ∧ chk c f = false) ∨
    (decide (48 ≤ c) = true ∧ decide (c ≤ 57) = false ∧ (c != 95) = true ∧ decide (c < 97) = true ∧ decide (c < 65) = true ∧ chk c f = false) ∨
    (decide (48 ≤ c) = true ∧ decide (c ≤ 57) = false ∧ (c != 95) = true ∧ decide (c < 97) = true ∧ decide (c < 65) = false ∧ decide (90 < c) = false ∧ chk c f = true) ∨
    (decide (48 ≤ c) = true ∧ decide (c ≤ 57) = false ∧ (c != 95) = true ∧ decide (c < 97) = true ∧ decide (c < 65) = false ∧ decide (90 < c) = true ∧ chk c f = false) ∨
    (decide (48 ≤ c) = true ∧ decide (c ≤ 57) = false ∧ (c != 95) = false ∧ chk c f = true) ∨
    (decide (48 ≤ c) = true ∧ decide (c ≤ 57) = false ∧ (c != 95) = true ∧ decide (c < 97) = false ∧ decide (122 < c) = false ∧ chk c f = true) ∨
    (decide (48 ≤ c) = true ∧ decide (c ≤ 57) = false ∧ (c != 95) = true ∧ decide (c < 97) = false ∧ decide (122 < c) = true ∧ decide (c < 65) = false ∧ decide (90 < c) = true ∧ chk c f = false) := by
  by_cases h1 : 48 ≤ c
  · by_cases h2 : c ≤ 57
    · exact .inl ⟨decide_eq_true h1, decide_eq_true h2, by unfold chk; rw [if_pos ⟨h1, h2⟩]⟩
    · have hn : ¬ (48 ≤ c ∧ c ≤ 57) := fun h => h2 h.2
      by_cases h3 : c = 95
      · subst h3; exact .inr (.inr (.inr (.inr (.inr (.inl ⟨rfl, rfl, rfl, rfl⟩)))))
      · have h3' : (c != 95) = true := bne_iff_ne.2 h3
        by_cases h4 : c < 97
        · by_cases h5 : c < 65
          · exact .inr (.inr (.inl ⟨decide_eq_true h1, decide_eq_false h2, h3', decide_eq_true h4, decide_eq_true h5, by unfold chk; rw [if_neg hn, decide_eq_false h3, decide_eq_false (by omega), decide_eq_false (by omega)]; rfl⟩))
          · by_cases h6 : 90 < c
            · exact .inr (.inr (.inr (.inr (.inl ⟨decide_eq_true h1, decide_eq_false h2, h3', decide_eq_true h4, decide_eq_false h5, decide_eq_true h6, by unfold chk; rw [if_neg hn, decide_eq_false h3, decide_eq_false (by omega), decide_eq_false (by omega)]; rfl⟩))))
            · exact .inr (.inr (.inr (.inl ⟨decide_eq_true h1, decide_eq_false h2, h3', decide_eq_true h4, decide_eq_false h5, decide_eq_false h6, by unfold chk; rw [if_neg hn, decide_eq_false h3, decide_eq_false (by omega), decide_eq_true (by omega)]; rfl⟩)))
        · by_cases h5 : 122 < c
          · exact .inr (.inr (.inr (.inr (.inr (.inr (.inr ⟨decide_eq_true h1, decide_eq_false h2, h3', decide_eq_false h4, decide_eq_true h5, decide_eq_false (by omega), decide_eq_true (by omega), by unfold chk; rw [if_neg hn, decide_eq_false h3, decide_eq_false (by omega), decide_eq_false (by omega)]; rfl⟩))))))
          · exact .inr (.inr (.inr (.inr (.inr (.inr (.inl ⟨decide_eq_true h1, decide_eq_false h2, h3', decide_eq_false h4, decide_eq_false h5, by unfold chk; rw [if_neg hn, decide_eq_false h3, decide_eq_true (by omega)]; rfl⟩))))))
  · exact .inr (.inl ⟨decide_eq_false h1, bne_iff_ne.2 (by omega), decide_eq_true (by omega), decide_eq_true (by omega), by unfold chk; rw [if_neg (by omega), decide_eq_false (by omega), decide_eq_false (by omega), decide_eq_false (by omega)]; rfl⟩)
def tidepoleref30_Name.f (a0 : ByteArray) : Option Bool := some (nameR a0)
set_option maxHeartbeats 8000000 in
set_option maxRecDepth 100000 in
theorem tidepoleref30_Name.calls (a0 : ByteArray) (r : Bool) (w : World) (h : tidepoleref30_Name.f a0 = some r) :
    Calls Try.prog 28 #[.string a0] w fun e w' => e = .returned (.bool r) ∧ Drawn0 w w' := by
  injection h with h
  unfold nameR at h
  by_cases h1 : 1 ≤ a0.size
  · have d1 : decide ((a0.size : Int) < 1) = false := decide_eq_false (by omega)
    by_cases h2 : a0.size ≤ 40
    · have d2 : decide (40 < (a0.size : Int)) = false := decide_eq_false (by omega)
      rw [decide_eq_true h1, decide_eq_true h2, Bool.true_and, Bool.true_and] at h
      have HA := Aside0.mk h
      clear h
      go_enter Try.func28, Try.ntmps28
      go_wp2
      go_loopg [3] a0.size (fun gg v3 wr => ∃ i : Nat, i + gg = a0.size ∧ v3 = .int .i64 i ∧ Aside0 (nameL a0 gg i = r) ∧ Aside0 (Drawn0 w wr))
      case atStart => exact ⟨0, by omega, rfl, HA, ⟨Drawn0.refl _⟩⟩
      case round =>
        clear HA
        obtain ⟨i, hi, rfl, HA, HD⟩ := hrel
        cases gk with
        | zero =>
          have hr : r = true := HA.out.symm
          subst hr
          have d3 : decide ((i : Int) < (a0.size : Int)) = false := decide_eq_false (by omega)
          have d3n : decide (i < a0.size) = false := decide_eq_false (by omega)
          clear hi
          go_wp2
          go_ret
          exact ⟨rfl, HD.out⟩
        | succ g =>
          have ha := HA.out
          unfold nameL at ha
          have p4 : 0 ≤ (i : Int) := by omega
          have q4 : (i : Int) < (a0.size : Int) := by omega
          have hx4 : ∀ h : i < a0.size, ((a0[i]'h).toNat : Int) = bt a0 (i : Int) := fun h => by have := bt_at a0 (i : Int) (by simpa using h); simpa using this
          have d3 : decide ((i : Int) < (a0.size : Int)) = true := decide_eq_true q4
          have d3n : decide (i < a0.size) = true := decide_eq_true (by omega)
          have d4 : decide ((0 : Int) ≤ i) = true := decide_eq_true p4
          replace p4 := eq_true p4
          replace q4 := eq_true q4
          generalize hc : bt a0 (i : Int) = c at *
          have HC := Aside0.mk hc
          clear hc HA
          by_cases hz : i = 0
          · have z1 : ((i : Int) == 0) = true := by simp [hz]
            rw [decide_eq_true hz] at ha
            clear hz
            rcases cls c true with ⟨k1, k2, kc⟩ | ⟨k1, k3, k4, k5, kc⟩ | ⟨k1, k2, k3, k4, k5, kc⟩ | ⟨k1, k2, k3, k4, k5, k6, kc⟩ | ⟨k1, k2, k3, k4, k5, k6, kc⟩ | ⟨k1, k2, k3, kc⟩ | ⟨k1, k2, k3, k4, k5, kc⟩ | ⟨k1, k2, k3, k4, k5, k6, k7, kc⟩
            · rw [kc] at ha
              replace ha : false = r := by simpa using ha
              subst ha
              clear kc
              go_wp2
              go_ret
              exact ⟨rfl, by repeat (first | exact HD.out | apply Drawn0.step)⟩
            · rw [kc] at ha
              replace ha : false = r := by simpa using ha
              subst ha
              clear kc
              go_wp2
              go_ret
              exact ⟨rfl, by repeat (first | exact HD.out | apply Drawn0.step)⟩
            · rw [kc] at ha
              replace ha : false = r := by simpa using ha
              subst ha
              clear kc
              go_wp2
              go_ret
              exact ⟨rfl, by repeat (first | exact HD.out | apply Drawn0.step)⟩
            · rw [kc] at ha
              replace ha : nameL a0 g (i + 1) = r := by simpa using ha
              have HA := Aside0.mk ha
              clear ha kc
              go_wp2
              go_roundg g
              case measure => omega
              case rel => exact ⟨i + 1, by omega, by go_num, HA, ⟨by repeat (first | exact HD.out | apply Drawn0.step)⟩⟩
            · rw [kc] at ha
              replace ha : false = r := by simpa using ha
              subst ha
              clear kc
              go_wp2
              go_ret
              exact ⟨rfl, by repeat (first | exact HD.out | apply Drawn0.step)⟩
            · rw [kc] at ha
              replace ha : nameL a0 g (i + 1) = r := by simpa using ha
              have HA := Aside0.mk ha
              clear ha kc
              go_wp2
              go_roundg g
              case measure => omega
              case rel => exact ⟨i + 1, by omega, by go_num, HA, ⟨by repeat (first | exact HD.out | apply Drawn0.step)⟩⟩
            · rw [kc] at ha
              replace ha : nameL a0 g (i + 1) = r := by simpa using ha
              have HA := Aside0.mk ha
              clear ha kc
              go_wp2
              go_roundg g
              case measure => omega
              case rel => exact ⟨i + 1, by omega, by go_num, HA, ⟨by repeat (first | exact HD.out | apply Drawn0.step)⟩⟩
            · rw [kc] at ha
              replace ha : false = r := by simpa using ha
              subst ha
              clear kc
              go_wp2
              go_ret
              exact ⟨rfl, by repeat (first | exact HD.out | apply Drawn0.step)⟩
          · have z1 : ((i : Int) == 0) = false := beq_eq_false_iff_ne.2 (by omega)
            rw [decide_eq_false hz] at ha
            clear hz
            rcases cls c false with ⟨k1, k2, kc⟩ | ⟨k1, k3, k4, k5, kc⟩ | ⟨k1, k2, k3, k4, k5, kc⟩ | ⟨k1, k2, k3, k4, k5, k6, kc⟩ | ⟨k1, k2, k3, k4, k5, k6, kc⟩ | ⟨k1, k2, k3, kc⟩ | ⟨k1, k2, k3, k4, k5, kc⟩ | ⟨k1, k2, k3, k4, k5, k6, k7, kc⟩
            · rw [kc] at ha
              replace ha : nameL a0 g (i + 1) = r := by simpa using ha
              have HA := Aside0.mk ha
              clear ha kc
              go_wp2
              go_roundg g
              case measure => omega
              case rel => exact ⟨i + 1, by omega, by go_num, HA, ⟨by repeat (first | exact HD.out | apply Drawn0.step)⟩⟩
            · rw [kc] at ha
              replace ha : false = r := by simpa using ha
              subst ha
              clear kc
              go_wp2
              go_ret
              exact ⟨rfl, by repeat (first | exact HD.out | apply Drawn0.step)⟩
            · rw [kc] at ha
              replace ha : false = r := by simpa using ha
              subst ha
              clear kc
              go_wp2
              go_ret
              exact ⟨rfl, by repeat (first | exact HD.out | apply Drawn0.step)⟩
            · rw [kc] at ha
              replace ha : nameL a0 g (i + 1) = r := by simpa using ha
              have HA := Aside0.mk ha
              clear ha kc
              go_wp2
              go_roundg g
              case measure => omega
              case rel => exact ⟨i + 1, by omega, by go_num, HA, ⟨by repeat (first | exact HD.out | apply Drawn0.step)⟩⟩
            · rw [kc] at ha
              replace ha : false = r := by simpa using ha
              subst ha
              clear kc
              go_wp2
              go_ret
              exact ⟨rfl, by repeat (first | exact HD.out | apply Drawn0.step)⟩
            · rw [kc] at ha
              replace ha : nameL a0 g (i + 1) = r := by simpa using ha
              have HA := Aside0.mk ha
              clear ha kc
              go_wp2
              go_roundg g
              case measure => omega
              case rel => exact ⟨i + 1, by omega, by go_num, HA, ⟨by repeat (first | exact HD.out | apply Drawn0.step)⟩⟩
            · rw [kc] at ha
              replace ha : nameL a0 g (i + 1) = r := by simpa using ha
              have HA := Aside0.mk ha
              clear ha kc
              go_wp2
              go_roundg g
              case measure => omega
              case rel => exact ⟨i + 1, by omega, by go_num, HA, ⟨by repeat (first | exact HD.out | apply Drawn0.step)⟩⟩
            · rw [kc] at ha
              replace ha : false = r := by simpa using ha
              subst ha
              clear kc
              go_wp2
              go_ret
              exact ⟨rfl, by repeat (first | exact HD.out | apply Drawn0.step)⟩
    · have d2 : decide (40 < (a0.size : Int)) = true := decide_eq_true (by omega)
      rw [decide_eq_true h1, decide_eq_false h2, Bool.true_and, Bool.false_and] at h
      subst h
      go_enter Try.func28, Try.ntmps28
      go_wp2
      go_ret
      exact ⟨rfl, by repeat (first | exact Drawn0.refl _ | apply Drawn0.step)⟩
  · have d1 : decide ((a0.size : Int) < 1) = true := decide_eq_true (by omega)
    rw [decide_eq_false h1, Bool.false_and] at h
    subst h
    go_enter Try.func28, Try.ntmps28
    go_wp2
    go_ret
    exact ⟨rfl, by repeat (first | exact Drawn0.refl _ | apply Drawn0.step)⟩
def escB (c : Int) : ByteArray := if c = 10 then ⟨#[92, 110]⟩ else if c = 34 ∨ c = 92 then (⟨#[92]⟩ : ByteArray) ++ strOfNums [c] else strOfNums [c]
def quotL (s : ByteArray) : Nat → Nat → ByteArray → ByteArray
  | 0, _, acc => acc
  | d + 1, i, acc => quotL s d (i + 1) (acc ++ escB (bt s (i : Int)))
def quotedR (s : ByteArray) : ByteArray := (⟨#[34]⟩ : ByteArray) ++ quotL s s.size 0 ⟨#[]⟩ ++ (⟨#[34]⟩ : ByteArray)
theorem strOf1_size (c : Int) : (strOfNums [c]).size = 1 := by unfold strOfNums; rfl
theorem escB_size (c : Int) : (escB c).size ≤ 2 := by
  unfold escB
  split
  · exact Nat.le_refl 2
  · split
    · rw [ByteArray.size_append, strOf1_size]; exact Nat.le_refl 2
    · rw [strOf1_size]; omega
def tidepoleref30_Quoted.f (a0 : ByteArray) : Option ByteArray := if a0.size ≤ 1000000 then some (quotedR a0) else none
set_option maxHeartbeats 8000000 in
set_option maxRecDepth 100000 in
theorem tidepoleref30_Quoted.calls (a0 : ByteArray) (r : ByteArray) (w : World) (h : tidepoleref30_Quoted.f a0 = some r) :
    Calls Try.prog 32 #[.string a0] w fun e w' => e = .returned (.string r) ∧ Below w.heap.size w w' := by
  unfold tidepoleref30_Quoted.f at h
  by_cases hs : a0.size ≤ 1000000
  · rw [if_pos hs] at h
    injection h with h
    have HB := Aside0.mk (Below.refl w.heap.size w)
    have HA := Aside0.mk h
    clear h
    go_enter Try.func32, Try.ntmps32
    go_wp2
    go_loopg [3, 4] a0.size (fun gg v3 v4 w' => ∃ (acc : ByteArray) (i : Nat), v3 = .string acc ∧ i + gg = a0.size ∧ v4 = .int .i64 i ∧ acc.size ≤ 2 * i ∧ Aside0 ((⟨#[34]⟩ : ByteArray) ++ quotL a0 gg i acc ++ (⟨#[34]⟩ : ByteArray) = r) ∧ Aside0 (Below w.heap.size w w'))
    case atStart => exact ⟨⟨#[]⟩, 0, rfl, by omega, rfl, Nat.le_refl _, HA, HB⟩
    case round =>
      clear HA HB
      obtain ⟨acc, i, rfl, hi, rfl, hz, HA, HB⟩ := hrel
      cases gk with
      | zero =>
        have ha := HA.out
        simp only [quotL] at ha
        have d3 : decide ((i : Int) < (a0.size : Int)) = false := decide_eq_false (by omega)
        have d3n : decide (i < a0.size) = false := decide_eq_false (by omega)
        have e1 : (⟨#[34]⟩ : ByteArray).size + acc.size ≤ 9223372036854775807 := by show 1 + acc.size ≤ _; omega
        have e2 : ((⟨#[34]⟩ : ByteArray) ++ acc).size + (⟨#[34]⟩ : ByteArray).size ≤ 9223372036854775807 := by rw [ByteArray.size_append]; show 1 + acc.size + 1 ≤ _; omega
        have HR := Aside0.mk ha
        clear ha hi hz HA
        go_wp2
        go_ret
        exact ⟨by rw [HR.out]; rfl, HB.out⟩
      | succ g =>
        have ha := HA.out
        simp only [quotL] at ha
        have d3 : decide ((i : Int) < (a0.size : Int)) = true := decide_eq_true (by omega)
        have d3n : decide (i < a0.size) = true := decide_eq_true (by omega)
        have p4 : (0 ≤ (i : Int)) = True := eq_true (by omega)
        have q4 : ((i : Int) < (a0.size : Int)) = True := eq_true (by omega)
        have hx4 : ∀ h : i < a0.size, ((a0[i]'h).toNat : Int) = bt a0 (i : Int) := fun h => by have := bt_at a0 (i : Int) (by simpa using h); simpa using this
        generalize hc : bt a0 (i : Int) = c at *
        have hes := escB_size c
        have hzs : (acc ++ escB c).size ≤ 2 * (i + 1) := by rw [ByteArray.size_append]; omega
        have HZ := Aside0.mk hzs
        have h1s := strOf1_size c
        clear hc HA hes hzs
        by_cases c10 : c = 10
        · have k1 : (c == 10) = true := beq_iff_eq.2 c10
          have k2 : (c == 34) = false := beq_eq_false_iff_ne.2 (by omega)
          have k3 : (c == 92) = false := beq_eq_false_iff_ne.2 (by omega)
          have he : escB c = (⟨#[92, 110]⟩ : ByteArray) := by unfold escB; simp [c10]
          rw [he] at ha HZ
          have e1 : acc.size + (⟨#[92, 110]⟩ : ByteArray).size ≤ 9223372036854775807 := by show acc.size + 2 ≤ _; omega
          have e2 : acc.size + 2 ≤ 9223372036854775807 := by omega
          have c10' := Aside0.mk c10
          clear c10
          have HA := Aside0.mk ha
          clear ha he
          go_wp2_with ((with_reducible refine gate_dst (N := 15) rfl ?_); refine Kd.R_lit (Kd.int .u8) _ 5 ?hg (N := 15) ?hd (xs := ([c] : List Int)) (inner := [.int .u8 c]) (ok := fun _ => True) (okp := fun _ => True) ?hr ?hp (fun _ hk => hk) trivial (Below.refl _ _) (Nat.le_refl _) (by simp) ?_; (case hd => rfl); (case hg => rfl); (case hr => first | (go_simp; done) | (go_simp; rfl)); (case hp => exact (Reps.one (show Kd.M (Kd.int .u8) _ _ _ c [.int .u8 c] from rfl) (Reps.none _ _))); intro v102 w11 ho12 hb hg_ hnew_; clear hg_ hnew_; have n0_ := Aside0.mk (Kd.R_lower ho12 (below_size HB.out)); have n1_ := Aside0.mk (below_step HB.out hb); clear HB; have HO103 := n0_; have HB := n1_; clear n0_ n1_; clear hb ho12; have hcv13 := own_string (P := Try.prog) Try.underlying77 Try.underlying5 Try.underlying9 (Kd.own_of_R HO103.out))
          go_roundg g
          case measure => omega
          case rel => exact ⟨_, i + 1, rfl, by omega, by go_num, HZ.out, HA, HB⟩
        by_cases c34 : c = 34
        · have k1 : (c == 10) = false := beq_eq_false_iff_ne.2 (by omega)
          have k2 : (c == 34) = true := beq_iff_eq.2 c34
          have he : escB c = (⟨#[92]⟩ : ByteArray) ++ strOfNums [c] := by unfold escB; simp [c34]
          rw [he] at ha HZ
          have e1 : 1 + (strOfNums [c]).size ≤ 9223372036854775807 := by rw [h1s]; omega
          have e2 : acc.size + ((⟨#[92]⟩ : ByteArray) ++ strOfNums [c]).size ≤ 9223372036854775807 := by rw [ByteArray.size_append, h1s]; show acc.size + 2 ≤ _; omega
          have c34' := Aside0.mk c34
          clear c34 c10 h1s
          have HA := Aside0.mk ha
          clear ha he
          go_wp2_with ((with_reducible refine gate_dst (N := 15) rfl ?_); refine Kd.R_lit (Kd.int .u8) _ 5 ?hg (N := 15) ?hd (xs := ([c] : List Int)) (inner := [.int .u8 c]) (ok := fun _ => True) (okp := fun _ => True) ?hr ?hp (fun _ hk => hk) trivial (Below.refl _ _) (Nat.le_refl _) (by simp) ?_; (case hd => rfl); (case hg => rfl); (case hr => first | (go_simp; done) | (go_simp; rfl)); (case hp => exact (Reps.one (show Kd.M (Kd.int .u8) _ _ _ c [.int .u8 c] from rfl) (Reps.none _ _))); intro v102 w11 ho12 hb hg_ hnew_; clear hg_ hnew_; have n0_ := Aside0.mk (Kd.R_lower ho12 (below_size HB.out)); have n1_ := Aside0.mk (below_step HB.out hb); clear HB; have HO103 := n0_; have HB := n1_; clear n0_ n1_; clear hb ho12; have hcv13 := own_string (P := Try.prog) Try.underlying77 Try.underlying5 Try.underlying9 (Kd.own_of_R HO103.out))
          go_roundg g
          case measure => omega
          case rel => exact ⟨_, i + 1, rfl, by omega, by go_num, HZ.out, HA, HB⟩
        by_cases c92 : c = 92
        · have k1 : (c == 10) = false := beq_eq_false_iff_ne.2 (by omega)
          have k2 : (c == 34) = false := beq_eq_false_iff_ne.2 (by omega)
          have k3 : (c == 92) = true := beq_iff_eq.2 c92
          have he : escB c = (⟨#[92]⟩ : ByteArray) ++ strOfNums [c] := by unfold escB; simp [c92]
          rw [he] at ha HZ
          have e1 : 1 + (strOfNums [c]).size ≤ 9223372036854775807 := by rw [h1s]; omega
          have e2 : acc.size + ((⟨#[92]⟩ : ByteArray) ++ strOfNums [c]).size ≤ 9223372036854775807 := by rw [ByteArray.size_append, h1s]; show acc.size + 2 ≤ _; omega
          have c92' := Aside0.mk c92
          clear c92 c10 c34 h1s
          have HA := Aside0.mk ha
          clear ha he
          go_wp2_with ((with_reducible refine gate_dst (N := 15) rfl ?_); refine Kd.R_lit (Kd.int .u8) _ 5 ?hg (N := 15) ?hd (xs := ([c] : List Int)) (inner := [.int .u8 c]) (ok := fun _ => True) (okp := fun _ => True) ?hr ?hp (fun _ hk => hk) trivial (Below.refl _ _) (Nat.le_refl _) (by simp) ?_; (case hd => rfl); (case hg => rfl); (case hr => first | (go_simp; done) | (go_simp; rfl)); (case hp => exact (Reps.one (show Kd.M (Kd.int .u8) _ _ _ c [.int .u8 c] from rfl) (Reps.none _ _))); intro v102 w11 ho12 hb hg_ hnew_; clear hg_ hnew_; have n0_ := Aside0.mk (Kd.R_lower ho12 (below_size HB.out)); have n1_ := Aside0.mk (below_step HB.out hb); clear HB; have HO103 := n0_; have HB := n1_; clear n0_ n1_; clear hb ho12; have hcv13 := own_string (P := Try.prog) Try.underlying77 Try.underlying5 Try.underlying9 (Kd.own_of_R HO103.out))
          go_roundg g
          case measure => omega
          case rel => exact ⟨_, i + 1, rfl, by omega, by go_num, HZ.out, HA, HB⟩
        have k1 : (c == 10) = false := beq_eq_false_iff_ne.2 (by omega)
        have k2 : (c == 34) = false := beq_eq_false_iff_ne.2 (by omega)
        have k3 : (c == 92) = false := beq_eq_false_iff_ne.2 c92
        have he : escB c = strOfNums [c] := by unfold escB; simp [c10, c34, c92]
        rw [he] at ha HZ
        have e2 : acc.size + (strOfNums [c]).size ≤ 9223372036854775807 := by rw [h1s]; omega
        clear c92 c10 c34 h1s
        have HA := Aside0.mk ha
        clear ha he
        go_wp2_with ((with_reducible refine gate_dst (N := 15) rfl ?_); refine Kd.R_lit (Kd.int .u8) _ 5 ?hg (N := 15) ?hd (xs := ([c] : List Int)) (inner := [.int .u8 c]) (ok := fun _ => True) (okp := fun _ => True) ?hr ?hp (fun _ hk => hk) trivial (Below.refl _ _) (Nat.le_refl _) (by simp) ?_; (case hd => rfl); (case hg => rfl); (case hr => first | (go_simp; done) | (go_simp; rfl)); (case hp => exact (Reps.one (show Kd.M (Kd.int .u8) _ _ _ c [.int .u8 c] from rfl) (Reps.none _ _))); intro v102 w11 ho12 hb hg_ hnew_; clear hg_ hnew_; have n0_ := Aside0.mk (Kd.R_lower ho12 (below_size HB.out)); have n1_ := Aside0.mk (below_step HB.out hb); clear HB; have HO103 := n0_; have HB := n1_; clear n0_ n1_; clear hb ho12; have hcv13 := own_string (P := Try.prog) Try.underlying77 Try.underlying5 Try.underlying9 (Kd.own_of_R HO103.out))
        go_roundg g
        case measure => omega
        case rel => exact ⟨_, i + 1, rfl, by omega, by go_num, HZ.out, HA, HB⟩
  · rw [if_neg hs] at h; cases h
end Go.Proofs.Ytbfiacnmielajaa.P
namespace Go.Proofs.Ytbfiacnmielajaa.P
open Go.RowKit Go.Proofs.YtbfiacnmielajaaW.PrintWords Go.Proofs.YtbfiacnmielajaaW.PrintLast Go.Proofs.YtbfiacnmielajaaW.PrintMore
attribute [local go_sem] max2_int min2_int max_two min_two max_three min_three max_four min_four
set_option linter.unusedVariables false
set_option linter.unusedSimpArgs false
theorem rdR_nat (l : List S59) (i : Nat) (h : i < l.length) : rd_T59 l (i : Int) = l[i] := by unfold rd_T59; simp [List.getD, h]
def pieceR (acc : ByteArray) (i : Nat) (x : S59) : ByteArray := (if i = 0 then acc else acc ++ (⟨#[44]⟩ : ByteArray)) ++ (x.f1 ++ sgn x.f0.toNat ++ quotedR x.f2)
def textL : Nat → ByteArray → List S59 → ByteArray
  | _, acc, [] => acc
  | i, acc, x :: l => textL (i + 1) (pieceR acc i x) l
def textR (l : List S59) : ByteArray := textL 0 ⟨#[123]⟩ l ++ (⟨#[125]⟩ : ByteArray)
theorem quotL_size (s : ByteArray) : ∀ (d i : Nat) (acc : ByteArray), (quotL s d i acc).size ≤ acc.size + 2 * d
  | 0, _, acc => by simp [quotL]
  | d + 1, i, acc => by
    have h1 := quotL_size s d (i + 1) (acc ++ escB (bt s (i : Int)))
    have h2 := escB_size (bt s (i : Int))
    rw [ByteArray.size_append] at h1
    simp only [quotL]; omega
theorem quotedR_size (s : ByteArray) : (quotedR s).size ≤ 2 * s.size + 2 := by
  have h := quotL_size s s.size 0 ⟨#[]⟩
  unfold quotedR
  rw [ByteArray.size_append, ByteArray.size_append]
  have e1 : (⟨#[34]⟩ : ByteArray).size = 1 := rfl
  have e2 : (⟨#[]⟩ : ByteArray).size = 0 := rfl
  omega
def okM (k : Int) (n v : ByteArray) : Prop := 0 ≤ k ∧ k ≤ 3 ∧ n.size ≤ 1000 ∧ v.size ≤ 1000
instance (k : Int) (n v : ByteArray) : Decidable (okM k n v) := by unfold okM; infer_instance
def tidepoleref30_Text.f (l : List S59) : Option ByteArray := if l.length ≤ 1000 ∧ ∀ x ∈ l, okM x.f0 x.f1 x.f2 then some (textR l) else none
set_option maxHeartbeats 8000000 in
set_option maxRecDepth 100000 in
theorem tidepoleref30_Text.calls (A0 : Option Addr) (c0 : Nat) (l0 : List S59) (r : ByteArray) (w : World) (hr0 : Kd.C k59 w A0 l0.length l0) (hc0 : l0.length ≤ c0) (h : tidepoleref30_Text.f l0 = some r) :
    Calls Try.prog 16 #[.slice A0 l0.length c0] w fun e w' => e = .returned (.string r) ∧ Below w.heap.size w w' := by
  unfold tidepoleref30_Text.f at h
  by_cases hs : l0.length ≤ 1000 ∧ ∀ x ∈ l0, okM x.f0 x.f1 x.f2
  rotate_left
  · rw [if_neg hs] at h; cases h
  rw [if_pos hs] at h
  injection h with h
  unfold textR at h
  have HOK := Aside0.mk hs.2
  have hlen := hs.1
  have HR := Aside0.mk hr0
  have HB := Aside0.mk (Below.refl w.heap.size w)
  have HH := Aside0.mk h
  have hu := Try.underlying59
  have hs0 := sg0
  have hs1 := sg1
  have hs2 := sg2
  have hs3 := sg3
  clear hs h hr0
  go_enter Try.func16, Try.ntmps16
  go_wp2
  go_loopg [4, 5] l0.length (fun gg v4 v5 wr => ∃ (acc : ByteArray) (i : Nat), v4 = .string acc ∧ i + gg = l0.length ∧ v5 = .int .i64 i ∧ acc.size ≤ 1 + 4000 * i ∧ Aside0 (textL i acc (l0.drop i) ++ (⟨#[125]⟩ : ByteArray) = r) ∧ Aside0 (Below w.heap.size w wr) ∧ Aside0 (wr.heap[w.heap.size]? = some (.cells #[.string ⟨#[61]⟩, .string ⟨#[33, 61]⟩, .string ⟨#[94, 61]⟩, .string ⟨#[42, 61]⟩] 64 (0, 0))))
  case atStart => exact ⟨_, 0, rfl, by omega, rfl, Nat.le_refl 1, HH, ⟨below_alloc HB.out _⟩, ⟨by simpa using heap_alloc_new w _⟩⟩
  case round =>
    clear HH HB
    obtain ⟨acc, i, rfl, hi, rfl, hz, HH, HB, BK⟩ := hrel
    cases gk with
    | zero =>
      have ha := HH.out
      rw [List.drop_of_length_le (by omega)] at ha
      simp only [textL] at ha
      have d3 : decide ((i : Int) < (l0.length : Int)) = false := decide_eq_false (by omega)
      have d3n : decide (i < l0.length) = false := decide_eq_false (by omega)
      have e1 : acc.size + (⟨#[125]⟩ : ByteArray).size ≤ 9223372036854775807 := by show acc.size + 1 ≤ _; omega
      have e2 : acc.size + 1 ≤ 9223372036854775807 := by omega
      have HA := Aside0.mk ha
      clear ha HH hi hz
      go_wp2
      go_ret
      exact ⟨by rw [HA.out]; rfl, HB.out⟩
    | succ g1 =>
      have hlt : i < l0.length := by omega
      have ha := HH.out
      rw [List.drop_eq_getElem_cons hlt] at ha
      simp only [textL] at ha
      have hok := HOK.out l0[i] (List.getElem_mem hlt)
      obtain ⟨ad, e1, hx0, hx1, hx2⟩ := at_T59 HR.out (i : Int) (by omega) (by omega)
      cases e1
      replace hx0 := (HB.out.cell (World.block_lt_of_cell? w _ hx0)).trans hx0
      replace hx1 := (HB.out.cell (World.block_lt_of_cell? w _ hx1)).trans hx1
      replace hx2 := (HB.out.cell (World.block_lt_of_cell? w _ hx2)).trans hx2
      rw [rdR_nat l0 i hlt, Int.toNat_natCast] at hx0 hx1 hx2
      generalize l0[i] = x at *
      obtain ⟨k, n, v⟩ := x
      dsimp only at hx0 hx1 hx2 ha hok
      unfold okM at hok
      obtain ⟨hk0, hk1, hn, hv⟩ := hok
      have hq : tidepoleref30_Quoted.f v = some (quotedR v) := by unfold tidepoleref30_Quoted.f; rw [if_pos (by omega)]
      have hqs := quotedR_size v
      unfold pieceR at ha
      dsimp only at ha
      have HQ := Aside0.mk hq
      clear hq HH
      generalize quotedR v = q at *
      have p4 : (0 ≤ (i : Int)) = True := eq_true (by omega)
      have q4 : ((i : Int) < (l0.length : Int)) = True := eq_true (by omega)
      have d3 : decide ((i : Int) < (l0.length : Int)) = true := decide_eq_true (by omega)
      have d3n : decide (i < l0.length) = true := decide_eq_true (by omega)
      have hcs0 : wr.cell? ⟨w.heap.size, 0, none⟩ = some (.string (sgn 0)) := (blk_cell BK.out 0).trans rfl
      have hcs1 : wr.cell? ⟨w.heap.size, 1, none⟩ = some (.string (sgn 1)) := (blk_cell BK.out 1).trans rfl
      have hcs2 : wr.cell? ⟨w.heap.size, 2, none⟩ = some (.string (sgn 2)) := (blk_cell BK.out 2).trans rfl
      have hcs3 : wr.cell? ⟨w.heap.size, 3, none⟩ = some (.string (sgn 3)) := (blk_cell BK.out 3).trans rfl
      by_cases hi0 : i = 0
      · have dz : decide ((0 : Int) < (i : Int)) = false := decide_eq_false (by omega)
        have dzn : decide (0 < i) = false := decide_eq_false (by omega)
        rw [if_pos hi0] at ha
        clear hi0
        obtain rfl | rfl | rfl | rfl : k = 0 ∨ k = 1 ∨ k = 2 ∨ k = 3 := by omega
        · have hsg : (sgn 0).size = 1 := rfl
          have f2 : n.size + (sgn 0).size ≤ 9223372036854775807 := by omega
          have f3 : (n ++ sgn 0).size + q.size ≤ 9223372036854775807 := by rw [ByteArray.size_append]; omega
          have f4 : acc.size + (n ++ sgn 0 ++ q).size ≤ 9223372036854775807 := by simp only [ByteArray.size_append]; omega
          have f3' : n.size + (sgn 0).size + q.size ≤ 9223372036854775807 := by omega
          have f4' : acc.size + (n.size + (sgn 0).size + q.size) ≤ 9223372036854775807 := by omega
          have g2 : (9223372036854775807 < n.size + (sgn 0).size) = False := eq_false (by omega)
          have g3 : (9223372036854775807 < n.size + (sgn 0).size + q.size) = False := eq_false (by omega)
          have g4 : (9223372036854775807 < acc.size + (n.size + (sgn 0).size + q.size)) = False := eq_false (by omega)
          have HZ : Aside0 ((acc ++ (n ++ sgn 0 ++ q)).size ≤ 1 + 4000 * (i + 1)) := ⟨by simp only [ByteArray.size_append]; omega⟩
          have HH := Aside0.mk ha
          clear ha hsg hqs hz hn hv hk0 hk1 hcs1 hcs2 hcs3
          go_wp2
          replace HB := Aside0.mk (below_drew1 HB.out)
          have BK2 : Aside0 (wr.drew.heap[w.heap.size]? = some (.cells #[.string ⟨#[61]⟩, .string ⟨#[33, 61]⟩, .string ⟨#[94, 61]⟩, .string ⟨#[42, 61]⟩] 64 (0, 0))) := ⟨BK.out⟩
          clear BK
          replace hx0 : wr.drew.cell? (ad.add (i * 3)) = _ := hx0
          replace hx1 : wr.drew.cell? ⟨(ad.add (i * 3)).block, (ad.add (i * 3)).off + 1, none⟩ = _ := hx1
          replace hx2 : wr.drew.cell? ⟨(ad.add (i * 3)).block, (ad.add (i * 3)).off + 2, none⟩ = _ := hx2
          replace hcs0 : wr.drew.cell? ⟨w.heap.size, 0, none⟩ = _ := hcs0
          go_region_held3 (fun W => W.cell? (ad.add (i * 3)) = some (.int .i64 0) ∧ W.cell? ⟨(ad.add (i * 3)).block, (ad.add (i * 3)).off + 1, none⟩ = some (.string n) ∧ W.cell? ⟨(ad.add (i * 3)).block, (ad.add (i * 3)).off + 2, none⟩ = some (.string v) ∧ W.cell? ⟨w.heap.size, 0, none⟩ = some (.string (sgn 0))) (exact ⟨hx0, hx1, hx2, hcs0⟩) (first | (go_at_call 32; (with_reducible refine (tidepoleref30_Quoted.calls v q _ HQ.out).mono ?_); rintro e w1 ⟨rfl, hb⟩; replace hx0 := (hb.cell (World.block_lt_of_cell? _ _ hx0)).trans hx0; replace hx1 := (hb.cell (World.block_lt_of_cell? _ _ hx1)).trans hx1; replace hx2 := (hb.cell (World.block_lt_of_cell? _ _ hx2)).trans hx2; replace hcs0 := (hb.cell (World.block_lt_of_cell? _ _ hcs0)).trans hcs0; replace BK2 := Aside0.mk (blk_below BK2.out hb); replace HB := Aside0.mk (below_then HB.out HB.out.size hb); clear hb))
          all_goals go_wp2
          all_goals go_roundg g1
          all_goals first | (case measure => omega) | skip
          all_goals exact ⟨_, i + 1, rfl, by omega, by go_num, HZ.out, HH, HB, BK2⟩
        · have hsg : (sgn 1).size = 2 := rfl
          have f2 : n.size + (sgn 1).size ≤ 9223372036854775807 := by omega
          have f3 : (n ++ sgn 1).size + q.size ≤ 9223372036854775807 := by rw [ByteArray.size_append]; omega
          have f4 : acc.size + (n ++ sgn 1 ++ q).size ≤ 9223372036854775807 := by simp only [ByteArray.size_append]; omega
          have f3' : n.size + (sgn 1).size + q.size ≤ 9223372036854775807 := by omega
          have f4' : acc.size + (n.size + (sgn 1).size + q.size) ≤ 9223372036854775807 := by omega
          have g2 : (9223372036854775807 < n.size + (sgn 1).size) = False := eq_false (by omega)
          have g3 : (9223372036854775807 < n.size + (sgn 1).size + q.size) = False := eq_false (by omega)
          have g4 : (9223372036854775807 < acc.size + (n.size + (sgn 1).size + q.size)) = False := eq_false (by omega)
          have HZ : Aside0 ((acc ++ (n ++ sgn 1 ++ q)).size ≤ 1 + 4000 * (i + 1)) := ⟨by simp only [ByteArray.size_append]; omega⟩
          have HH := Aside0.mk ha
          clear ha hsg hqs hz hn hv hk0 hk1 hcs0 hcs2 hcs3
          go_wp2
          replace HB := Aside0.mk (below_drew1 HB.out)
          have BK2 : Aside0 (wr.drew.heap[w.heap.size]? = some (.cells #[.string ⟨#[61]⟩, .string ⟨#[33, 61]⟩, .string ⟨#[94, 61]⟩, .string ⟨#[42, 61]⟩] 64 (0, 0))) := ⟨BK.out⟩
          clear BK
          replace hx0 : wr.drew.cell? (ad.add (i * 3)) = _ := hx0
          replace hx1 : wr.drew.cell? ⟨(ad.add (i * 3)).block, (ad.add (i * 3)).off + 1, none⟩ = _ := hx1
          replace hx2 : wr.drew.cell? ⟨(ad.add (i * 3)).block, (ad.add (i * 3)).off + 2, none⟩ = _ := hx2
          replace hcs1 : wr.drew.cell? ⟨w.heap.size, 1, none⟩ = _ := hcs1
          go_region_held3 (fun W => W.cell? (ad.add (i * 3)) = some (.int .i64 1) ∧ W.cell? ⟨(ad.add (i * 3)).block, (ad.add (i * 3)).off + 1, none⟩ = some (.string n) ∧ W.cell? ⟨(ad.add (i * 3)).block, (ad.add (i * 3)).off + 2, none⟩ = some (.string v) ∧ W.cell? ⟨w.heap.size, 1, none⟩ = some (.string (sgn 1))) (exact ⟨hx0, hx1, hx2, hcs1⟩) (first | (go_at_call 32; (with_reducible refine (tidepoleref30_Quoted.calls v q _ HQ.out).mono ?_); rintro e w1 ⟨rfl, hb⟩; replace hx0 := (hb.cell (World.block_lt_of_cell? _ _ hx0)).trans hx0; replace hx1 := (hb.cell (World.block_lt_of_cell? _ _ hx1)).trans hx1; replace hx2 := (hb.cell (World.block_lt_of_cell? _ _ hx2)).trans hx2; replace hcs1 := (hb.cell (World.block_lt_of_cell? _ _ hcs1)).trans hcs1; replace BK2 := Aside0.mk (blk_below BK2.out hb); replace HB := Aside0.mk (below_then HB.out HB.out.size hb); clear hb))
          all_goals go_wp2
          all_goals go_roundg g1
          all_goals first | (case measure => omega) | skip
          all_goals exact ⟨_, i + 1, rfl, by omega, by go_num, HZ.out, HH, HB, BK2⟩
        · have hsg : (sgn 2).size = 2 := rfl
          have f2 : n.size + (sgn 2).size ≤ 9223372036854775807 := by omega
          have f3 : (n ++ sgn 2).size + q.size ≤ 9223372036854775807 := by rw [ByteArray.size_append]; omega
          have f4 : acc.size + (n ++ sgn 2 ++ q).size ≤ 9223372036854775807 := by simp only [ByteArray.size_append]; omega
          have f3' : n.size + (sgn 2).size + q.size ≤ 9223372036854775807 := by omega
          have f4' : acc.size + (n.size + (sgn 2).size + q.size) ≤ 9223372036854775807 := by omega
          have g2 : (9223372036854775807 < n.size + (sgn 2).size) = False := eq_false (by omega)
          have g3 : (9223372036854775807 < n.size + (sgn 2).size + q.size) = False := eq_false (by omega)
          have g4 : (9223372036854775807 < acc.size + (n.size + (sgn 2).size + q.size)) = False := eq_false (by omega)
          have HZ : Aside0 ((acc ++ (n ++ sgn 2 ++ q)).size ≤ 1 + 4000 * (i + 1)) := ⟨by simp only [ByteArray.size_append]; omega⟩
          have HH := Aside0.mk ha
          clear ha hsg hqs hz hn hv hk0 hk1 hcs0 hcs1 hcs3
          go_wp2
          replace HB := Aside0.mk (below_drew1 HB.out)
          have BK2 : Aside0 (wr.drew.heap[w.heap.size]? = some (.cells #[.string ⟨#[61]⟩, .string ⟨#[33, 61]⟩, .string ⟨#[94, 61]⟩, .string ⟨#[42, 61]⟩] 64 (0, 0))) := ⟨BK.out⟩
          clear BK
          replace hx0 : wr.drew.cell? (ad.add (i * 3)) = _ := hx0
          replace hx1 : wr.drew.cell? ⟨(ad.add (i * 3)).block, (ad.add (i * 3)).off + 1, none⟩ = _ := hx1
          replace hx2 : wr.drew.cell? ⟨(ad.add (i * 3)).block, (ad.add (i * 3)).off + 2, none⟩ = _ := hx2
          replace hcs2 : wr.drew.cell? ⟨w.heap.size, 2, none⟩ = _ := hcs2
          go_region_held3 (fun W => W.cell? (ad.add (i * 3)) = some (.int .i64 2) ∧ W.cell? ⟨(ad.add (i * 3)).block, (ad.add (i * 3)).off + 1, none⟩ = some (.string n) ∧ W.cell? ⟨(ad.add (i * 3)).block, (ad.add (i * 3)).off + 2, none⟩ = some (.string v) ∧ W.cell? ⟨w.heap.size, 2, none⟩ = some (.string (sgn 2))) (exact ⟨hx0, hx1, hx2, hcs2⟩) (first | (go_at_call 32; (with_reducible refine (tidepoleref30_Quoted.calls v q _ HQ.out).mono ?_); rintro e w1 ⟨rfl, hb⟩; replace hx0 := (hb.cell (World.block_lt_of_cell? _ _ hx0)).trans hx0; replace hx1 := (hb.cell (World.block_lt_of_cell? _ _ hx1)).trans hx1; replace hx2 := (hb.cell (World.block_lt_of_cell? _ _ hx2)).trans hx2; replace hcs2 := (hb.cell (World.block_lt_of_cell? _ _ hcs2)).trans hcs2; replace BK2 := Aside0.mk (blk_below BK2.out hb); replace HB := Aside0.mk (below_then HB.out HB.out.size hb); clear hb))
          all_goals go_wp2
          all_goals go_roundg g1
          all_goals first | (case measure => omega) | skip
          all_goals exact ⟨_, i + 1, rfl, by omega, by go_num, HZ.out, HH, HB, BK2⟩
        · have hsg : (sgn 3).size = 2 := rfl
          have f2 : n.size + (sgn 3).size ≤ 9223372036854775807 := by omega
          have f3 : (n ++ sgn 3).size + q.size ≤ 9223372036854775807 := by rw [ByteArray.size_append]; omega
          have f4 : acc.size + (n ++ sgn 3 ++ q).size ≤ 9223372036854775807 := by simp only [ByteArray.size_append]; omega
          have f3' : n.size + (sgn 3).size + q.size ≤ 9223372036854775807 := by omega
          have f4' : acc.size + (n.size + (sgn 3).size + q.size) ≤ 9223372036854775807 := by omega
          have g2 : (9223372036854775807 < n.size + (sgn 3).size) = False := eq_false (by omega)
          have g3 : (9223372036854775807 < n.size + (sgn 3).size + q.size) = False := eq_false (by omega)
          have g4 : (9223372036854775807 < acc.size + (n.size + (sgn 3).size + q.size)) = False := eq_false (by omega)
          have HZ : Aside0 ((acc ++ (n ++ sgn 3 ++ q)).size ≤ 1 + 4000 * (i + 1)) := ⟨by simp only [ByteArray.size_append]; omega⟩
          have HH := Aside0.mk ha
          clear ha hsg hqs hz hn hv hk0 hk1 hcs0 hcs1 hcs2
          go_wp2
          replace HB := Aside0.mk (below_drew1 HB.out)
          have BK2 : Aside0 (wr.drew.heap[w.heap.size]? = some (.cells #[.string ⟨#[61]⟩, .string ⟨#[33, 61]⟩, .string ⟨#[94, 61]⟩, .string ⟨#[42, 61]⟩] 64 (0, 0))) := ⟨BK.out⟩
          clear BK
          replace hx0 : wr.drew.cell? (ad.add (i * 3)) = _ := hx0
          replace hx1 : wr.drew.cell? ⟨(ad.add (i * 3)).block, (ad.add (i * 3)).off + 1, none⟩ = _ := hx1
          replace hx2 : wr.drew.cell? ⟨(ad.add (i * 3)).block, (ad.add (i * 3)).off + 2, none⟩ = _ := hx2
          replace hcs3 : wr.drew.cell? ⟨w.heap.size, 3, none⟩ = _ := hcs3
          go_region_held3 (fun W => W.cell? (ad.add (i * 3)) = some (.int .i64 3) ∧ W.cell? ⟨(ad.add (i * 3)).block, (ad.add (i * 3)).off + 1, none⟩ = some (.string n) ∧ W.cell? ⟨(ad.add (i * 3)).block, (ad.add (i * 3)).off + 2, none⟩ = some (.string v) ∧ W.cell? ⟨w.heap.size, 3, none⟩ = some (.string (sgn 3))) (exact ⟨hx0, hx1, hx2, hcs3⟩) (first | (go_at_call 32; (with_reducible refine (tidepoleref30_Quoted.calls v q _ HQ.out).mono ?_); rintro e w1 ⟨rfl, hb⟩; replace hx0 := (hb.cell (World.block_lt_of_cell? _ _ hx0)).trans hx0; replace hx1 := (hb.cell (World.block_lt_of_cell? _ _ hx1)).trans hx1; replace hx2 := (hb.cell (World.block_lt_of_cell? _ _ hx2)).trans hx2; replace hcs3 := (hb.cell (World.block_lt_of_cell? _ _ hcs3)).trans hcs3; replace BK2 := Aside0.mk (blk_below BK2.out hb); replace HB := Aside0.mk (below_then HB.out HB.out.size hb); clear hb))
          all_goals go_wp2
          all_goals go_roundg g1
          all_goals first | (case measure => omega) | skip
          all_goals exact ⟨_, i + 1, rfl, by omega, by go_num, HZ.out, HH, HB, BK2⟩
      · have dz : decide ((0 : Int) < (i : Int)) = true := decide_eq_true (by omega)
        have dzn : decide (0 < i) = true := decide_eq_true (by omega)
        rw [if_neg hi0] at ha
        clear hi0
        obtain rfl | rfl | rfl | rfl : k = 0 ∨ k = 1 ∨ k = 2 ∨ k = 3 := by omega
        · have f1 : acc.size + (⟨#[44]⟩ : ByteArray).size ≤ 9223372036854775807 := by show acc.size + 1 ≤ _; omega
          have f1' : acc.size + 1 ≤ 9223372036854775807 := by omega
          have hsg : (sgn 0).size = 1 := rfl
          have f2 : n.size + (sgn 0).size ≤ 9223372036854775807 := by omega
          have f3 : (n ++ sgn 0).size + q.size ≤ 9223372036854775807 := by rw [ByteArray.size_append]; omega
          have f4 : (acc ++ (⟨#[44]⟩ : ByteArray)).size + (n ++ sgn 0 ++ q).size ≤ 9223372036854775807 := by simp only [ByteArray.size_append]; have : (⟨#[44]⟩ : ByteArray).size = 1 := rfl; omega
          have f3' : n.size + (sgn 0).size + q.size ≤ 9223372036854775807 := by omega
          have f4' : acc.size + 1 + (n.size + (sgn 0).size + q.size) ≤ 9223372036854775807 := by omega
          have g2 : (9223372036854775807 < n.size + (sgn 0).size) = False := eq_false (by omega)
          have g3 : (9223372036854775807 < n.size + (sgn 0).size + q.size) = False := eq_false (by omega)
          have g4 : (9223372036854775807 < acc.size + 1 + (n.size + (sgn 0).size + q.size)) = False := eq_false (by omega)
          have HZ : Aside0 (((acc ++ (⟨#[44]⟩ : ByteArray)) ++ (n ++ sgn 0 ++ q)).size ≤ 1 + 4000 * (i + 1)) := ⟨by simp only [ByteArray.size_append]; have : (⟨#[44]⟩ : ByteArray).size = 1 := rfl; omega⟩
          have HH := Aside0.mk ha
          clear ha hsg hqs hz hn hv hk0 hk1 hcs1 hcs2 hcs3
          go_wp2
          replace HB := Aside0.mk (below_drew1 HB.out)
          have BK2 : Aside0 (wr.drew.heap[w.heap.size]? = some (.cells #[.string ⟨#[61]⟩, .string ⟨#[33, 61]⟩, .string ⟨#[94, 61]⟩, .string ⟨#[42, 61]⟩] 64 (0, 0))) := ⟨BK.out⟩
          clear BK
          replace hx0 : wr.drew.cell? (ad.add (i * 3)) = _ := hx0
          replace hx1 : wr.drew.cell? ⟨(ad.add (i * 3)).block, (ad.add (i * 3)).off + 1, none⟩ = _ := hx1
          replace hx2 : wr.drew.cell? ⟨(ad.add (i * 3)).block, (ad.add (i * 3)).off + 2, none⟩ = _ := hx2
          replace hcs0 : wr.drew.cell? ⟨w.heap.size, 0, none⟩ = _ := hcs0
          go_region_held3 (fun W => W.cell? (ad.add (i * 3)) = some (.int .i64 0) ∧ W.cell? ⟨(ad.add (i * 3)).block, (ad.add (i * 3)).off + 1, none⟩ = some (.string n) ∧ W.cell? ⟨(ad.add (i * 3)).block, (ad.add (i * 3)).off + 2, none⟩ = some (.string v) ∧ W.cell? ⟨w.heap.size, 0, none⟩ = some (.string (sgn 0))) (exact ⟨hx0, hx1, hx2, hcs0⟩) (first | (go_at_call 32; (with_reducible refine (tidepoleref30_Quoted.calls v q _ HQ.out).mono ?_); rintro e w1 ⟨rfl, hb⟩; replace hx0 := (hb.cell (World.block_lt_of_cell? _ _ hx0)).trans hx0; replace hx1 := (hb.cell (World.block_lt_of_cell? _ _ hx1)).trans hx1; replace hx2 := (hb.cell (World.block_lt_of_cell? _ _ hx2)).trans hx2; replace hcs0 := (hb.cell (World.block_lt_of_cell? _ _ hcs0)).trans hcs0; replace BK2 := Aside0.mk (blk_below BK2.out hb); replace HB := Aside0.mk (below_then HB.out HB.out.size hb); clear hb))
          all_goals go_wp2
          all_goals go_roundg g1
          all_goals first | (case measure => omega) | skip
          all_goals exact ⟨_, i + 1, rfl, by omega, by go_num, HZ.out, HH, HB, BK2⟩
        · have f1 : acc.size + (⟨#[44]⟩ : ByteArray).size ≤ 9223372036854775807 := by show acc.size + 1 ≤ _; omega
          have f1' : acc.size + 1 ≤ 9223372036854775807 := by omega
          have hsg : (sgn 1).size = 2 := rfl
          have f2 : n.size + (sgn 1).size ≤ 9223372036854775807 := by omega
          have f3 : (n ++ sgn 1).size + q.size ≤ 9223372036854775807 := by rw [ByteArray.size_append]; omega
          have f4 : (acc ++ (⟨#[44]⟩ : ByteArray)).size + (n ++ sgn 1 ++ q).size ≤ 9223372036854775807 := by simp only [ByteArray.size_append]; have : (⟨#[44]⟩ : ByteArray).size = 1 := rfl; omega
          have f3' : n.size + (sgn 1).size + q.size ≤ 9223372036854775807 := by omega
          have f4' : acc.size + 1 + (n.size + (sgn 1).size + q.size) ≤ 9223372036854775807 := by omega
          have g2 : (9223372036854775807 < n.size + (sgn 1).size) = False := eq_false (by omega)
          have g3 : (9223372036854775807 < n.size + (sgn 1).size + q.size) = False := eq_false (by omega)
          have g4 : (9223372036854775807 < acc.size + 1 + (n.size + (sgn 1).size + q.size)) = False := eq_false (by omega)
          have HZ : Aside0 (((acc ++ (⟨#[44]⟩ : ByteArray)) ++ (n ++ sgn 1 ++ q)).size ≤ 1 + 4000 * (i + 1)) := ⟨by simp only [ByteArray.size_append]; have : (⟨#[44]⟩ : ByteArray).size = 1 := rfl; omega⟩
          have HH := Aside0.mk ha
          clear ha hsg hqs hz hn hv hk0 hk1 hcs0 hcs2 hcs3
          go_wp2
          replace HB := Aside0.mk (below_drew1 HB.out)
          have BK2 : Aside0 (wr.drew.heap[w.heap.size]? = some (.cells #[.string ⟨#[61]⟩, .string ⟨#[33, 61]⟩, .string ⟨#[94, 61]⟩, .string ⟨#[42, 61]⟩] 64 (0, 0))) := ⟨BK.out⟩
          clear BK
          replace hx0 : wr.drew.cell? (ad.add (i * 3)) = _ := hx0
          replace hx1 : wr.drew.cell? ⟨(ad.add (i * 3)).block, (ad.add (i * 3)).off + 1, none⟩ = _ := hx1
          replace hx2 : wr.drew.cell? ⟨(ad.add (i * 3)).block, (ad.add (i * 3)).off + 2, none⟩ = _ := hx2
          replace hcs1 : wr.drew.cell? ⟨w.heap.size, 1, none⟩ = _ := hcs1
          go_region_held3 (fun W => W.cell? (ad.add (i * 3)) = some (.int .i64 1) ∧ W.cell? ⟨(ad.add (i * 3)).block, (ad.add (i * 3)).off + 1, none⟩ = some (.string n) ∧ W.cell? ⟨(ad.add (i * 3)).block, (ad.add (i * 3)).off + 2, none⟩ = some (.string v) ∧ W.cell? ⟨w.heap.size, 1, none⟩ = some (.string (sgn 1))) (exact ⟨hx0, hx1, hx2, hcs1⟩) (first | (go_at_call 32; (with_reducible refine (tidepoleref30_Quoted.calls v q _ HQ.out).mono ?_); rintro e w1 ⟨rfl, hb⟩; replace hx0 := (hb.cell (World.block_lt_of_cell? _ _ hx0)).trans hx0; replace hx1 := (hb.cell (World.block_lt_of_cell? _ _ hx1)).trans hx1; replace hx2 := (hb.cell (World.block_lt_of_cell? _ _ hx2)).trans hx2; replace hcs1 := (hb.cell (World.block_lt_of_cell? _ _ hcs1)).trans hcs1; replace BK2 := Aside0.mk (blk_below BK2.out hb); replace HB := Aside0.mk (below_then HB.out HB.out.size hb); clear hb))
          all_goals go_wp2
          all_goals go_roundg g1
          all_goals first | (case measure => omega) | skip
          all_goals exact ⟨_, i + 1, rfl, by omega, by go_num, HZ.out, HH, HB, BK2⟩
        · have f1 : acc.size + (⟨#[44]⟩ : ByteArray).size ≤ 9223372036854775807 := by show acc.size + 1 ≤ _; omega
          have f1' : acc.size + 1 ≤ 9223372036854775807 := by omega
          have hsg : (sgn 2).size = 2 := rfl
          have f2 : n.size + (sgn 2).size ≤ 9223372036854775807 := by omega
          have f3 : (n ++ sgn 2).size + q.size ≤ 9223372036854775807 := by rw [ByteArray.size_append]; omega
          have f4 : (acc ++ (⟨#[44]⟩ : ByteArray)).size + (n ++ sgn 2 ++ q).size ≤ 9223372036854775807 := by simp only [ByteArray.size_append]; have : (⟨#[44]⟩ : ByteArray).size = 1 := rfl; omega
          have f3' : n.size + (sgn 2).size + q.size ≤ 9223372036854775807 := by omega
          have f4' : acc.size + 1 + (n.size + (sgn 2).size + q.size) ≤ 9223372036854775807 := by omega
          have g2 : (9223372036854775807 < n.size + (sgn 2).size) = False := eq_false (by omega)
          have g3 : (9223372036854775807 < n.size + (sgn 2).size + q.size) = False := eq_false (by omega)
          have g4 : (9223372036854775807 < acc.size + 1 + (n.size + (sgn 2).size + q.size)) = False := eq_false (by omega)
          have HZ : Aside0 (((acc ++ (⟨#[44]⟩ : ByteArray)) ++ (n ++ sgn 2 ++ q)).size ≤ 1 + 4000 * (i + 1)) := ⟨by simp only [ByteArray.size_append]; have : (⟨#[44]⟩ : ByteArray).size = 1 := rfl; omega⟩
          have HH := Aside0.mk ha
          clear ha hsg hqs hz hn hv hk0 hk1 hcs0 hcs1 hcs3
          go_wp2
          replace HB := Aside0.mk (below_drew1 HB.out)
          have BK2 : Aside0 (wr.drew.heap[w.heap.size]? = some (.cells #[.string ⟨#[61]⟩, .string ⟨#[33, 61]⟩, .string ⟨#[94, 61]⟩, .string ⟨#[42, 61]⟩] 64 (0, 0))) := ⟨BK.out⟩
          clear BK
          replace hx0 : wr.drew.cell? (ad.add (i * 3)) = _ := hx0
          replace hx1 : wr.drew.cell? ⟨(ad.add (i * 3)).block, (ad.add (i * 3)).off + 1, none⟩ = _ := hx1
          replace hx2 : wr.drew.cell? ⟨(ad.add (i * 3)).block, (ad.add (i * 3)).off + 2, none⟩ = _ := hx2
          replace hcs2 : wr.drew.cell? ⟨w.heap.size, 2, none⟩ = _ := hcs2
          go_region_held3 (fun W => W.cell? (ad.add (i * 3)) = some (.int .i64 2) ∧ W.cell? ⟨(ad.add (i * 3)).block, (ad.add (i * 3)).off + 1, none⟩ = some (.string n) ∧ W.cell? ⟨(ad.add (i * 3)).block, (ad.add (i * 3)).off + 2, none⟩ = some (.string v) ∧ W.cell? ⟨w.heap.size, 2, none⟩ = some (.string (sgn 2))) (exact ⟨hx0, hx1, hx2, hcs2⟩) (first | (go_at_call 32; (with_reducible refine (tidepoleref30_Quoted.calls v q _ HQ.out).mono ?_); rintro e w1 ⟨rfl, hb⟩; replace hx0 := (hb.cell (World.block_lt_of_cell? _ _ hx0)).trans hx0; replace hx1 := (hb.cell (World.block_lt_of_cell? _ _ hx1)).trans hx1; replace hx2 := (hb.cell (World.block_lt_of_cell? _ _ hx2)).trans hx2; replace hcs2 := (hb.cell (World.block_lt_of_cell? _ _ hcs2)).trans hcs2; replace BK2 := Aside0.mk (blk_below BK2.out hb); replace HB := Aside0.mk (below_then HB.out HB.out.size hb); clear hb))
          all_goals go_wp2
          all_goals go_roundg g1
          all_goals first | (case measure => omega) | skip
          all_goals exact ⟨_, i + 1, rfl, by omega, by go_num, HZ.out, HH, HB, BK2⟩
        · have f1 : acc.size + (⟨#[44]⟩ : ByteArray).size ≤ 9223372036854775807 := by show acc.size + 1 ≤ _; omega
          have f1' : acc.size + 1 ≤ 9223372036854775807 := by omega
          have hsg : (sgn 3).size = 2 := rfl
          have f2 : n.size + (sgn 3).size ≤ 9223372036854775807 := by omega
          have f3 : (n ++ sgn 3).size + q.size ≤ 9223372036854775807 := by rw [ByteArray.size_append]; omega
          have f4 : (acc ++ (⟨#[44]⟩ : ByteArray)).size + (n ++ sgn 3 ++ q).size ≤ 9223372036854775807 := by simp only [ByteArray.size_append]; have : (⟨#[44]⟩ : ByteArray).size = 1 := rfl; omega
          have f3' : n.size + (sgn 3).size + q.size ≤ 9223372036854775807 := by omega
          have f4' : acc.size + 1 + (n.size + (sgn 3).size + q.size) ≤ 9223372036854775807 := by omega
          have g2 : (9223372036854775807 < n.size + (sgn 3).size) = False := eq_false (by omega)
          have g3 : (9223372036854775807 < n.size + (sgn 3).size + q.size) = False := eq_false (by omega)
          have g4 : (9223372036854775807 < acc.size + 1 + (n.size + (sgn 3).size + q.size)) = False := eq_false (by omega)
          have HZ : Aside0 (((acc ++ (⟨#[44]⟩ : ByteArray)) ++ (n ++ sgn 3 ++ q)).size ≤ 1 + 4000 * (i + 1)) := ⟨by simp only [ByteArray.size_append]; have : (⟨#[44]⟩ : ByteArray).size = 1 := rfl; omega⟩
          have HH := Aside0.mk ha
          clear ha hsg hqs hz hn hv hk0 hk1 hcs0 hcs1 hcs2
          go_wp2
          replace HB := Aside0.mk (below_drew1 HB.out)
          have BK2 : Aside0 (wr.drew.heap[w.heap.size]? = some (.cells #[.string ⟨#[61]⟩, .string ⟨#[33, 61]⟩, .string ⟨#[94, 61]⟩, .string ⟨#[42, 61]⟩] 64 (0, 0))) := ⟨BK.out⟩
          clear BK
          replace hx0 : wr.drew.cell? (ad.add (i * 3)) = _ := hx0
          replace hx1 : wr.drew.cell? ⟨(ad.add (i * 3)).block, (ad.add (i * 3)).off + 1, none⟩ = _ := hx1
          replace hx2 : wr.drew.cell? ⟨(ad.add (i * 3)).block, (ad.add (i * 3)).off + 2, none⟩ = _ := hx2
          replace hcs3 : wr.drew.cell? ⟨w.heap.size, 3, none⟩ = _ := hcs3
          go_region_held3 (fun W => W.cell? (ad.add (i * 3)) = some (.int .i64 3) ∧ W.cell? ⟨(ad.add (i * 3)).block, (ad.add (i * 3)).off + 1, none⟩ = some (.string n) ∧ W.cell? ⟨(ad.add (i * 3)).block, (ad.add (i * 3)).off + 2, none⟩ = some (.string v) ∧ W.cell? ⟨w.heap.size, 3, none⟩ = some (.string (sgn 3))) (exact ⟨hx0, hx1, hx2, hcs3⟩) (first | (go_at_call 32; (with_reducible refine (tidepoleref30_Quoted.calls v q _ HQ.out).mono ?_); rintro e w1 ⟨rfl, hb⟩; replace hx0 := (hb.cell (World.block_lt_of_cell? _ _ hx0)).trans hx0; replace hx1 := (hb.cell (World.block_lt_of_cell? _ _ hx1)).trans hx1; replace hx2 := (hb.cell (World.block_lt_of_cell? _ _ hx2)).trans hx2; replace hcs3 := (hb.cell (World.block_lt_of_cell? _ _ hcs3)).trans hcs3; replace BK2 := Aside0.mk (blk_below BK2.out hb); replace HB := Aside0.mk (below_then HB.out HB.out.size hb); clear hb))
          all_goals go_wp2
          all_goals go_roundg g1
          all_goals first | (case measure => omega) | skip
          all_goals exact ⟨_, i + 1, rfl, by omega, by go_num, HZ.out, HH, HB, BK2⟩
end Go.Proofs.Ytbfiacnmielajaa.P
namespace Go.Proofs.Ytbfiacnmielajaa.P
open Go.RowKit Go.Proofs.YtbfiacnmielajaaW.PrintWords Go.Proofs.YtbfiacnmielajaaW.PrintLast Go.Proofs.YtbfiacnmielajaaW.PrintMore
attribute [local go_sem] max2_int min2_int max_two min_two max_three min_three max_four min_four
set_option linter.unusedVariables false
set_option linter.unusedSimpArgs false
theorem eqA59 (d : Nat) (w : World) (x0 y0 : Int) (x1 y1 : ByteArray) (x2 y2 : ByteArray) :
  (Op.equalIn (d + 2) 59 (.agg #[.int .i64 x0, .string x1, .string x2]) (.agg #[.int .i64 y0, .string y1, .string y2])).run Try.prog w = .ok (x0 == y0 && (x1.toList == y1.toList && (x2.toList == y2.toList))) w := by
 refine eqA_of Try.underlying59 (by kernel_rfl) ?_
 refine eqf_cons (by rfl) (by go_simp; rfl) (by go_simp; rfl) (by go_simp) ?_
 refine eqf_cons (by rfl) (by go_simp; rfl) (by go_simp; rfl) (by go_simp) ?_
 exact eqf_last (by rfl) (by go_simp; rfl) (by go_simp; rfl) (by go_simp)
end Go.Proofs.Ytbfiacnmielajaa.P
namespace Go.Proofs.Ytbfiacnmielajaa.P
open Go.RowKit Go.Proofs.YtbfiacnmielajaaW.PrintWords Go.Proofs.YtbfiacnmielajaaW.PrintLast Go.Proofs.YtbfiacnmielajaaW.PrintMore
attribute [local go_sem] max2_int min2_int max_two min_two max_three min_three max_four min_four
set_option linter.unusedVariables false
set_option linter.unusedSimpArgs false
attribute [local go_sem high] leq_str gtr_str
attribute [local go_sem high] eqA59
def tidepolelaw30_ref.l0 : Nat → List (S59) → List (S58) → Int → Int → Option ((List (S59)))
 | 0, _, _, _, _ => none
 | k + 1, x3, x6, x7, x8 => if x8 < x7 then (if 0 ≤ x8 then (if x8 < (x6.length : Int) then (if x3.length < 3518437208883 then (tidepolelaw30_ref.l0 k (x3 ++ [(⟨0, (rd_T58 x6 x8).f0, (rd_T58 x6 x8).f1⟩ : S59)]) x6 x7 (wrap64 (x8 + 1))) else (none)) else (none)) else (none)) else (some x3)
def tidepolelaw30_ref.f (k : Nat) (l0 : List (S58)) : Option ((List (S59))) := tidepolelaw30_ref.l0 k ([] : List (S59)) l0 (l0.length : Int) 0
set_option maxHeartbeats 8000000 in
set_option maxRecDepth 100000 in
theorem tidepolelaw30_ref.calls (k : Nat) (A0 : Option Addr) (c0 : Nat) (l0 : List (S58)) (r : List (S59)) (w : World) (hr0 : Kd.C k58 w A0 l0.length l0) (hc0 : l0.length ≤ c0) (h : tidepolelaw30_ref.f k l0 = some r) :
  Calls Try.prog 9 #[.slice A0 l0.length c0] w fun e w' => ∃ v0_ : Value, e = .returned (v0_) ∧ Kd.R k59 59 w' w.heap.size (fun _ => True) v0_ r ∧ Below w.heap.size w w' := by
 have hu58 := Try.underlying58
 have hu59 := Try.underlying59
 have HR0 := Aside0.mk hr0
 have HC0 := Aside0.mk hc0
 clear hr0 hc0
 have HB := Aside0.mk (Below.refl w.heap.size w)
 have H : (tidepolelaw30_ref.l0 k ([] : List (S59)) l0 (l0.length : Int) 0) = some r := h
 clear h
 have H' := Aside0.mk H
 clear H
 go_enter Try.func9, Try.ntmps9
 go_wp2
 go_loopg [3, 8] k (fun kq v3 v8 w' => ∃ (x3_1 : List (S59)) (x8_1 : Int), v8 = .int .i64 x8_1 ∧ Aside0 (tidepolelaw30_ref.l0 kq x3_1 l0 (l0.length : Int) x8_1 = some r) ∧ Aside0 (kq ≤ k) ∧ Aside0 (Kd.R k59 59 w' w.heap.size (fun _ => True) v3 x3_1) ∧ Aside0 (Below w.heap.size w w'))
 case atStart => exact ⟨(([] : List (S59))), (0), (by first | rfl | (simp; done) | (simp [*]; done)), H', ⟨Nat.le_refl _⟩, ⟨by first | exact Kd.R_nil _ _ _ _ _ | exact Kd.N_nil _ _ _ _ _ | exact Kd.V_nil _ _ _ _ _ | exact Kd.Q_nil _ _ _ _ _ | exact Kd.S_nil _ _ _ _ _⟩, ⟨by repeat (first | (with_reducible first | exact HB.out | apply below_alloc | apply pw_below_drewN | apply below_drew1) | exact HB.out)⟩⟩
 case round =>
  clear H'
  obtain ⟨x3_1, x8_1, rfl, HA, HK1, HO_3, HB⟩ := hrel
  cases gk with
  | zero => exact absurd HA.out (by simp [tidepolelaw30_ref.l0])
  | succ k1 =>
   have H := HA.out
   clear HA
   simp only [tidepolelaw30_ref.l0] at H
   by_cases c2 : x8_1 < (l0.length : Int)
   ·rw [if_pos c2] at H
    have c2b0 : decide (x8_1 < (l0.length : Int)) = true := decide_eq_true c2
    clear c2
    by_cases c3 : 0 ≤ x8_1
    ·rw [if_pos c3] at H
     have c3b0 : decide (0 ≤ x8_1) = true := decide_eq_true c3
     clear c3
     by_cases c4 : x8_1 < (l0.length : Int)
     ·rw [if_pos c4] at H
      have c4b0 : decide (x8_1 < (l0.length : Int)) = true := decide_eq_true c4
      clear c4
      by_cases c5 : x3_1.length < 3518437208883
      ·rw [if_pos c5] at H
       have LMc5 := Aside0.mk c5
       clear c5
       obtain ⟨y103, hy103⟩ : ∃ y_ : List (S59), y_ = (x3_1 ++ [(⟨0, (rd_T58 l0 x8_1).f0, (rd_T58 l0 x8_1).f1⟩ : S59)]) := ⟨_, rfl⟩
       replace H : (tidepolelaw30_ref.l0 k1 y103 l0 (l0.length : Int) (wrap64 (x8_1 + 1))) = some r := by first | (rw [hy103]; with_reducible exact H) | (have H2_ := (Option.bind_some _ _).symm.trans H; rw [hy103]; with_reducible exact H2_) | (have H2_ := (Option.bind_some _ _).symm.trans H; with_reducible exact H2_) | with_reducible exact H | (rw [hy103]; exact H) | exact H
       have Ny103 := Aside0.mk hy103
       clear hy103
       have H' := Aside0.mk H
       clear H
       have p101 : 0 ≤ (x8_1 : Int) := of_decide_eq_true (by first | (with_reducible assumption) | assumption)
       have q101 : x8_1 < (l0.length : Int) := of_decide_eq_true (by first | (with_reducible assumption) | assumption)
       obtain ⟨ad101, e101, hx101_0, hx101_1⟩ := at_T58 HR0.out x8_1 p101 q101
       cases e101
       replace hx101_0 := (HB.out.cell (World.block_lt_of_cell? w _ hx101_0)).trans hx101_0
       replace hx101_1 := (HB.out.cell (World.block_lt_of_cell? w _ hx101_1)).trans hx101_1
       replace p101 := eq_true p101
       replace q101 := eq_true q101
       go_wp2_with (first | ((with_reducible refine gate_dst (N := 5) rfl ?_); refine box_event ?hg (N := 5) ?hd (cs := #[.string (⟨#[]⟩ : ByteArray), .string (⟨#[]⟩ : ByteArray)]) (t := 58) ?hr ?_; (case hd => rfl); (case hg => rfl); (case hr => first | (go_simp; done) | (go_simp; rfl)); intro gb102 hg w6 hbox hb; have n0_ := Aside0.mk (Kd.R_below (by (with_reducible repeat (first | apply Kd.R_alloc | apply Kd.R_drewN | apply Kd.R_drew)); exact HO_3.out) hb); have n1_ := Aside0.mk (below_step (by repeat (first | (with_reducible first | exact HB.out | apply below_alloc | apply pw_below_drewN | apply below_drew1) | exact HB.out)) hb); have n2_ := Aside0.mk (hbox); have n3_ := Aside0.mk ((by rw [hg]; exact (below_size (by repeat (first | (with_reducible first | exact HB.out | apply below_alloc | apply pw_below_drewN | apply below_drew1) | exact HB.out))) : w.heap.size ≤ gb102)); have n4_ := Aside0.mk ((by rw [hg]; exact (below_size (by repeat (first | (with_reducible first | exact HB.out | apply below_alloc | apply pw_below_drewN | apply below_drew1) | exact HB.out))) : w.heap.size ≤ gb102)); clear HO_3; clear HB; have HO_3 := n0_; have HB := n1_; have BK102 := n2_; have GW102 := n3_; have GE102 := n4_; clear n0_ n1_ n2_ n3_ n4_; clear hb hbox hg; have hcz7_0 : w6.cell? ⟨gb102, 0, none⟩ = some (.string (⟨#[]⟩ : ByteArray)) := (blk_cell BK102.out 0).trans rfl; have hcz7_1 : w6.cell? ⟨gb102, 1, none⟩ = some (.string (⟨#[]⟩ : ByteArray)) := (blk_cell BK102.out 1).trans rfl; have hfz7_0 := blk_frozen BK102.out 0; have hfz7_1 := blk_frozen BK102.out 1) | ((with_reducible refine gate_builtin (b := .append) (xs := #[.tmp 12, .tmp 18]) rfl ?_); at_builtin; refine Kd.R_append k59 (w0 := w) w.heap.size rfl (.tmp 12) (.tmp 18) 23 59 (.agg #[(.int .i64 0), (.string ⟨#[]⟩), (.string ⟨#[]⟩)]) 40 rfl Try.underlying23 info59 rfl (by decide) (by omega) u3 x3_1 (⟨0, (rd_T58 l0 x8_1).f0, (rd_T58 l0 x8_1).f1⟩ : S59) [.int .i64 0, .string ((rd_T58 l0 x8_1).f0), .string ((rd_T58 l0 x8_1).f1)] (fun _ => True) (fun _ => False) rfl (by first | (go_simp; done) | (go_simp; rfl)) ?aP (fun _ hk => hk.elim) ?aF ?aO ?aB ?aS ?aL ?_; (case aP => exact k59_mkM _ _ _ (⟨0, (rd_T58 l0 x8_1).f0, (rd_T58 l0 x8_1).f1⟩ : S59)); (case aB => exact (by repeat (first | (with_reducible first | exact HB.out | apply below_alloc | apply pw_below_drewN | apply below_drew1 | refine below_set ?_ GE102.out) | exact HB.out))); (case aF => exact (fun _ _ => trivial)); (case aO => exact (by (with_reducible repeat (first | apply Kd.R_alloc | apply Kd.R_drewN | apply Kd.R_drew)); exact Kd.R_mono (Kd.R_far (p := ⟨gb102, 1, none⟩) (Kd.R_far (p := ⟨gb102, 0, none⟩) (Kd.R_types HO_3.out BK102.out (by decide)) (fun _ hk => hk.2) (.string ((rd_T58 l0 x8_1).f0))) (fun _ hk => hk.2) (.string ((rd_T58 l0 x8_1).f1))) (fun _ hk => trivial))); (case aS => exact (below_size (by repeat (first | (with_reducible first | exact HB.out | apply below_alloc | apply pw_below_drewN | apply below_drew1 | refine below_set ?_ GE102.out) | exact HB.out)))); (case aL => have := LMc5.out; omega); intro v104 w8 ho hb hg hat; rw [← Ny103.out] at ho; have n0_ := Aside0.mk (blk_grown (g := gb102) (o := .cells #[.string ((rd_T58 l0 x8_1).f0), .string ((rd_T58 l0 x8_1).f1)] 58 (0, 0)) (by (with_reducible repeat (first | refine blk_drewN ?_ _ | refine blk_drew ?_ | refine blk_alloc ?_ _)); refine blk_put (cs := #[.string ((rd_T58 l0 x8_1).f0), .string (⟨#[]⟩ : ByteArray)]) ?_ 1 _ rfl; (with_reducible repeat (first | refine blk_drewN ?_ _ | refine blk_drew ?_ | refine blk_alloc ?_ _)); refine blk_put (cs := #[.string (⟨#[]⟩ : ByteArray), .string (⟨#[]⟩ : ByteArray)]) ?_ 0 _ rfl; (with_reducible repeat (first | refine blk_drewN ?_ _ | refine blk_drew ?_ | refine blk_alloc ?_ _)); exact BK102.out) hg (Kd.R_ne HO_3.out BK102.out (by decide))); have n1_ := Aside0.mk (hb); have n2_ := Aside0.mk (ho); clear BK102; clear HB; clear HO_3; have BK102 := n0_; have HB := n1_; have HO105 := n2_; clear n0_ n1_ n2_; clear ho hb hg hat))
       go_roundg k1
       case measure => have := HK1.out; omega
       case rel => exact ⟨(y103), (wrap64 (x8_1 + 1)), (by first | rfl | (simp; done) | (simp [*]; done)), H', ⟨by have := HK1.out; omega⟩, ⟨by (with_reducible repeat (first | apply Kd.R_alloc | apply Kd.R_drewN | apply Kd.R_drew)); exact HO105.out⟩, ⟨by repeat (first | (with_reducible first | exact HB.out | apply below_alloc | apply pw_below_drewN | apply below_drew1 | refine below_set ?_ GE102.out) | exact HB.out)⟩⟩
      ·rw [if_neg c5] at H
       exact absurd H (by simp)
     ·rw [if_neg c4] at H
      exact absurd H (by simp)
    ·rw [if_neg c3] at H
     exact absurd H (by simp)
   ·rw [if_neg c2] at H
    have c2b0 : decide (x8_1 < (l0.length : Int)) = false := decide_eq_false c2
    clear c2
    obtain rfl := Option.some.inj H
    go_wp2
    go_ret
    exact ⟨_, by first | rfl | (simp [errW_none, errW_some] <;> rfl) | (simp [*, errW_none, errW_some] <;> rfl), by (with_reducible repeat (first | apply Kd.R_alloc | apply Kd.R_drewN | apply Kd.R_drew)); exact HO_3.out, by repeat (first | (with_reducible first | exact HB.out | apply below_alloc | apply pw_below_drewN | apply below_drew1) | exact HB.out)⟩
def tidepolelaw30_refs.l0 : Nat → List (S59) → List (S42) → Int → Int → Option ((List (S59)))
 | 0, _, _, _, _ => none
 | k + 1, x3, x6, x7, x8 => if x8 < x7 then (if 0 ≤ x8 then (if x8 < (x6.length : Int) then (if x3.length < 3518437208883 then (tidepolelaw30_refs.l0 k (x3 ++ [(⟨(rd_T42 x6 x8).f0, (rd_T42 x6 x8).f1, (rd_T42 x6 x8).f2⟩ : S59)]) x6 x7 (wrap64 (x8 + 1))) else (none)) else (none)) else (none)) else (some x3)
def tidepolelaw30_refs.f (k : Nat) (l0 : List (S42)) : Option ((List (S59))) := tidepolelaw30_refs.l0 k ([] : List (S59)) l0 (l0.length : Int) 0
set_option maxHeartbeats 8000000 in
set_option maxRecDepth 100000 in
theorem tidepolelaw30_refs.calls (k : Nat) (A0 : Option Addr) (c0 : Nat) (l0 : List (S42)) (r : List (S59)) (w : World) (hr0 : Kd.C k42 w A0 l0.length l0) (hc0 : l0.length ≤ c0) (h : tidepolelaw30_refs.f k l0 = some r) :
  Calls Try.prog 19 #[.slice A0 l0.length c0] w fun e w' => ∃ v0_ : Value, e = .returned (v0_) ∧ Kd.R k59 59 w' w.heap.size (fun _ => True) v0_ r ∧ Below w.heap.size w w' := by
 have hu42 := Try.underlying42
 have hu59 := Try.underlying59
 have HR0 := Aside0.mk hr0
 have HC0 := Aside0.mk hc0
 clear hr0 hc0
 have HB := Aside0.mk (Below.refl w.heap.size w)
 have H : (tidepolelaw30_refs.l0 k ([] : List (S59)) l0 (l0.length : Int) 0) = some r := h
 clear h
 have H' := Aside0.mk H
 clear H
 go_enter Try.func19, Try.ntmps19
 go_wp2
 go_loopg [3, 8] k (fun kq v3 v8 w' => ∃ (x3_1 : List (S59)) (x8_1 : Int), v8 = .int .i64 x8_1 ∧ Aside0 (tidepolelaw30_refs.l0 kq x3_1 l0 (l0.length : Int) x8_1 = some r) ∧ Aside0 (kq ≤ k) ∧ Aside0 (Kd.R k59 59 w' w.heap.size (fun _ => True) v3 x3_1) ∧ Aside0 (Below w.heap.size w w'))
 case atStart => exact ⟨(([] : List (S59))), (0), (by first | rfl | (simp; done) | (simp [*]; done)), H', ⟨Nat.le_refl _⟩, ⟨by first | exact Kd.R_nil _ _ _ _ _ | exact Kd.N_nil _ _ _ _ _ | exact Kd.V_nil _ _ _ _ _ | exact Kd.Q_nil _ _ _ _ _ | exact Kd.S_nil _ _ _ _ _⟩, ⟨by repeat (first | (with_reducible first | exact HB.out | apply below_alloc | apply pw_below_drewN | apply below_drew1) | exact HB.out)⟩⟩
 case round =>
  clear H'
  try clear c1
  obtain ⟨x3_1, x8_1, rfl, HA, HK1, HO_3, HB⟩ := hrel
  cases gk with
  | zero => exact absurd HA.out (by simp [tidepolelaw30_refs.l0])
  | succ k1 =>
   have H := HA.out
   clear HA
   simp only [tidepolelaw30_refs.l0] at H
   by_cases c2 : x8_1 < (l0.length : Int)
   ·rw [if_pos c2] at H
    have c2b0 : decide (x8_1 < (l0.length : Int)) = true := decide_eq_true c2
    clear c2
    by_cases c3 : 0 ≤ x8_1
    ·rw [if_pos c3] at H
     have c3b0 : decide (0 ≤ x8_1) = true := decide_eq_true c3
     clear c3
     by_cases c4 : x8_1 < (l0.length : Int)
     ·rw [if_pos c4] at H
      have c4b0 : decide (x8_1 < (l0.length : Int)) = true := decide_eq_true c4
      clear c4
      by_cases c5 : x3_1.length < 3518437208883
      ·rw [if_pos c5] at H
       have LMc5 := Aside0.mk c5
       clear c5
       obtain ⟨y103, hy103⟩ : ∃ y_ : List (S59), y_ = (x3_1 ++ [(⟨(rd_T42 l0 x8_1).f0, (rd_T42 l0 x8_1).f1, (rd_T42 l0 x8_1).f2⟩ : S59)]) := ⟨_, rfl⟩
       replace H : (tidepolelaw30_refs.l0 k1 y103 l0 (l0.length : Int) (wrap64 (x8_1 + 1))) = some r := by first | (rw [hy103]; with_reducible exact H) | (have H2_ := (Option.bind_some _ _).symm.trans H; rw [hy103]; with_reducible exact H2_) | (have H2_ := (Option.bind_some _ _).symm.trans H; with_reducible exact H2_) | with_reducible exact H | (rw [hy103]; exact H) | exact H
       have Ny103 := Aside0.mk hy103
       clear hy103
       have H' := Aside0.mk H
       clear H
       have p101 : 0 ≤ (x8_1 : Int) := of_decide_eq_true (by first | (with_reducible assumption) | assumption)
       have q101 : x8_1 < (l0.length : Int) := of_decide_eq_true (by first | (with_reducible assumption) | assumption)
       obtain ⟨ad101, e101, hx101_0, hx101_1, hx101_2⟩ := at_T42 HR0.out x8_1 p101 q101
       cases e101
       replace hx101_0 := (HB.out.cell (World.block_lt_of_cell? w _ hx101_0)).trans hx101_0
       replace hx101_1 := (HB.out.cell (World.block_lt_of_cell? w _ hx101_1)).trans hx101_1
       replace hx101_2 := (HB.out.cell (World.block_lt_of_cell? w _ hx101_2)).trans hx101_2
       replace p101 := eq_true p101
       replace q101 := eq_true q101
       go_wp2_with (first | ((with_reducible refine gate_dst (N := 5) rfl ?_); refine box_event ?hg (N := 5) ?hd (cs := #[.int .i64 0, .string (⟨#[]⟩ : ByteArray), .string (⟨#[]⟩ : ByteArray)]) (t := 42) ?hr ?_; (case hd => rfl); (case hg => rfl); (case hr => first | (go_simp; done) | (go_simp; rfl)); intro gb102 hg w6 hbox hb; have n0_ := Aside0.mk (Kd.R_below (by (with_reducible repeat (first | apply Kd.R_alloc | apply Kd.R_drewN | apply Kd.R_drew)); exact HO_3.out) hb); have n1_ := Aside0.mk (below_step (by repeat (first | (with_reducible first | exact HB.out | apply below_alloc | apply pw_below_drewN | apply below_drew1) | exact HB.out)) hb); have n2_ := Aside0.mk (hbox); have n3_ := Aside0.mk ((by rw [hg]; exact (below_size (by repeat (first | (with_reducible first | exact HB.out | apply below_alloc | apply pw_below_drewN | apply below_drew1) | exact HB.out))) : w.heap.size ≤ gb102)); have n4_ := Aside0.mk ((by rw [hg]; exact (below_size (by repeat (first | (with_reducible first | exact HB.out | apply below_alloc | apply pw_below_drewN | apply below_drew1) | exact HB.out))) : w.heap.size ≤ gb102)); clear HO_3; clear HB; have HO_3 := n0_; have HB := n1_; have BK102 := n2_; have GW102 := n3_; have GE102 := n4_; clear n0_ n1_ n2_ n3_ n4_; clear hb hbox hg; have hcz7_0 : w6.cell? ⟨gb102, 0, none⟩ = some (.int .i64 0) := (blk_cell BK102.out 0).trans rfl; have hcz7_1 : w6.cell? ⟨gb102, 1, none⟩ = some (.string (⟨#[]⟩ : ByteArray)) := (blk_cell BK102.out 1).trans rfl; have hcz7_2 : w6.cell? ⟨gb102, 2, none⟩ = some (.string (⟨#[]⟩ : ByteArray)) := (blk_cell BK102.out 2).trans rfl; have hfz7_0 := blk_frozen BK102.out 0; have hfz7_1 := blk_frozen BK102.out 1; have hfz7_2 := blk_frozen BK102.out 2) | ((with_reducible refine gate_builtin (b := .append) (xs := #[.tmp 12, .tmp 20]) rfl ?_); at_builtin; refine Kd.R_append k59 (w0 := w) w.heap.size rfl (.tmp 12) (.tmp 20) 23 59 (.agg #[(.int .i64 0), (.string ⟨#[]⟩), (.string ⟨#[]⟩)]) 40 rfl Try.underlying23 info59 rfl (by decide) (by omega) u3 x3_1 (⟨(rd_T42 l0 x8_1).f0, (rd_T42 l0 x8_1).f1, (rd_T42 l0 x8_1).f2⟩ : S59) [.int .i64 ((rd_T42 l0 x8_1).f0), .string ((rd_T42 l0 x8_1).f1), .string ((rd_T42 l0 x8_1).f2)] (fun _ => True) (fun _ => False) rfl (by first | (go_simp; done) | (go_simp; rfl)) ?aP (fun _ hk => hk.elim) ?aF ?aO ?aB ?aS ?aL ?_; (case aP => exact k59_mkM _ _ _ (⟨(rd_T42 l0 x8_1).f0, (rd_T42 l0 x8_1).f1, (rd_T42 l0 x8_1).f2⟩ : S59)); (case aB => exact (by repeat (first | (with_reducible first | exact HB.out | apply below_alloc | apply pw_below_drewN | apply below_drew1 | refine below_set ?_ GE102.out) | exact HB.out))); (case aF => exact (fun _ _ => trivial)); (case aO => exact (by (with_reducible repeat (first | apply Kd.R_alloc | apply Kd.R_drewN | apply Kd.R_drew)); exact Kd.R_mono (Kd.R_far (p := ⟨gb102, 2, none⟩) (Kd.R_far (p := ⟨gb102, 1, none⟩) (Kd.R_far (p := ⟨gb102, 0, none⟩) (Kd.R_types HO_3.out BK102.out (by decide)) (fun _ hk => hk.2) (.int .i64 ((rd_T42 l0 x8_1).f0))) (fun _ hk => hk.2) (.string ((rd_T42 l0 x8_1).f1))) (fun _ hk => hk.2) (.string ((rd_T42 l0 x8_1).f2))) (fun _ hk => trivial))); (case aS => exact (below_size (by repeat (first | (with_reducible first | exact HB.out | apply below_alloc | apply pw_below_drewN | apply below_drew1 | refine below_set ?_ GE102.out) | exact HB.out)))); (case aL => have := LMc5.out; omega); intro v104 w8 ho hb hg hat; rw [← Ny103.out] at ho; have n0_ := Aside0.mk (blk_grown (g := gb102) (o := .cells #[.int .i64 ((rd_T42 l0 x8_1).f0), .string ((rd_T42 l0 x8_1).f1), .string ((rd_T42 l0 x8_1).f2)] 42 (0, 0)) (by (with_reducible repeat (first | refine blk_drewN ?_ _ | refine blk_drew ?_ | refine blk_alloc ?_ _)); refine blk_put (cs := #[.int .i64 ((rd_T42 l0 x8_1).f0), .string ((rd_T42 l0 x8_1).f1), .string (⟨#[]⟩ : ByteArray)]) ?_ 2 _ rfl; (with_reducible repeat (first | refine blk_drewN ?_ _ | refine blk_drew ?_ | refine blk_alloc ?_ _)); refine blk_put (cs := #[.int .i64 ((rd_T42 l0 x8_1).f0), .string (⟨#[]⟩ : ByteArray), .string (⟨#[]⟩ : ByteArray)]) ?_ 1 _ rfl; (with_reducible repeat (first | refine blk_drewN ?_ _ | refine blk_drew ?_ | refine blk_alloc ?_ _)); refine blk_put (cs := #[.int .i64 0, .string (⟨#[]⟩ : ByteArray), .string (⟨#[]⟩ : ByteArray)]) ?_ 0 _ rfl; (with_reducible repeat (first | refine blk_drewN ?_ _ | refine blk_drew ?_ | refine blk_alloc ?_ _)); exact BK102.out) hg (Kd.R_ne HO_3.out BK102.out (by decide))); have n1_ := Aside0.mk (hb); have n2_ := Aside0.mk (ho); clear BK102; clear HB; clear HO_3; have BK102 := n0_; have HB := n1_; have HO105 := n2_; clear n0_ n1_ n2_; clear ho hb hg hat))
       go_roundg k1
       case measure => have := HK1.out; omega
       case rel => exact ⟨(y103), (wrap64 (x8_1 + 1)), (by first | rfl | (simp; done) | (simp [*]; done)), H', ⟨by have := HK1.out; omega⟩, ⟨by (with_reducible repeat (first | apply Kd.R_alloc | apply Kd.R_drewN | apply Kd.R_drew)); exact HO105.out⟩, ⟨by repeat (first | (with_reducible first | exact HB.out | apply below_alloc | apply pw_below_drewN | apply below_drew1 | refine below_set ?_ GE102.out) | exact HB.out)⟩⟩
      ·rw [if_neg c5] at H
       exact absurd H (by simp)
     ·rw [if_neg c4] at H
      exact absurd H (by simp)
    ·rw [if_neg c3] at H
     exact absurd H (by simp)
   ·rw [if_neg c2] at H
    have c2b0 : decide (x8_1 < (l0.length : Int)) = false := decide_eq_false c2
    clear c2
    obtain rfl := Option.some.inj H
    go_wp2
    go_ret
    exact ⟨_, by first | rfl | (simp [errW_none, errW_some] <;> rfl) | (simp [*, errW_none, errW_some] <;> rfl), by (with_reducible repeat (first | apply Kd.R_alloc | apply Kd.R_drewN | apply Kd.R_drew)); exact HO_3.out, by repeat (first | (with_reducible first | exact HB.out | apply below_alloc | apply pw_below_drewN | apply below_drew1) | exact HB.out)⟩
end Go.Proofs.Ytbfiacnmielajaa.P
namespace Go.Proofs.Ytbfiacnmielajaa.P
open Go.RowKit Go.Proofs.YtbfiacnmielajaaW.PrintWords Go.Proofs.YtbfiacnmielajaaW.PrintLast Go.Proofs.YtbfiacnmielajaaW.PrintMore
attribute [local go_sem] max2_int min2_int max_two min_two max_three min_three max_four min_four
set_option linter.unusedVariables false
set_option linter.unusedSimpArgs false
attribute [local go_sem high] leq_str gtr_str
mutual
def tidepoleref30_Check.l0 : Nat → List (S59) → Int → Int → Option (Int)
 | 0, _, _, _ => none
 | k + 1, x0, x1, x5 => if x5 < (x0.length : Int) then (if x1 = 0 then (if 0 ≤ x5 then (if ((rd_T59 x0 x5).f0) < 0 then (tidepoleref30_Check.j1 k x0 x1 x5 true) else (tidepoleref30_Check.j1 k x0 x1 x5 (decide (((rd_T59 x0 x5).f0) > 3)))) else (none)) else (tidepoleref30_Check.j1 k x0 x1 x5 false)) else (some 0)
def tidepoleref30_Check.j1 : Nat → List (S59) → Int → Int → Bool → Option (Int)
 | 0, _, _, _, _ => none
 | k + 1, x0, x1, x5, x32 => if x32 = true then (some 11) else (if 0 ≤ x5 then (if x5 < (x0.length : Int) then ((tidepoleref30_Name.f ((rd_T59 x0 x5).f1)).bind fun t104 => (if t104 = true then (if (((rd_T59 x0 x5).f2).size : Int) > 200 then (some 17) else (if x1 = 1 then (if x5 > 0 then (if 0 ≤ (wrap64 (x5 - 1)) then (if (wrap64 (x5 - 1)) < (x0.length : Int) then (if ((Op.bytesLess (((rd_T59 x0 (wrap64 (x5 - 1))).f1).toList) (((rd_T59 x0 x5).f1).toList)) = true) then (tidepoleref30_Check.l0 k x0 x1 (wrap64 (x5 + 1))) else (some 11)) else (none)) else (none)) else (tidepoleref30_Check.l0 k x0 x1 (wrap64 (x5 + 1)))) else (tidepoleref30_Check.l0 k x0 x1 (wrap64 (x5 + 1))))) else (some 10))) else (none)) else (none))
end
def tidepoleref30_Check.f (k : Nat) (l0 : List (S59)) (a1 : Int) : Option (Int) := if (l0.length : Int) > 16 then (some 12) else (tidepoleref30_Check.l0 k l0 a1 0)
set_option maxHeartbeats 8000000 in
set_option maxRecDepth 100000 in
theorem tidepoleref30_Check.calls (k : Nat) (A0 : Option Addr) (c0 : Nat) (l0 : List (S59)) (a1 : Int) (r : Int) (w : World) (hr0 : Kd.C k59 w A0 l0.length l0) (hc0 : l0.length ≤ c0) (h : tidepoleref30_Check.f k l0 a1 = some r) :
  Calls Try.prog 12 #[.slice A0 l0.length c0, .int .i64 a1] w fun e w' => e = .returned (.int .i64 r) ∧ Drawn0 w w' := by
 have HR0 := Aside0.mk hr0
 have HC0 := Aside0.mk hc0
 clear hr0 hc0
 have H : (if (l0.length : Int) > 16 then (some 12) else (tidepoleref30_Check.l0 k l0 a1 0)) = some r := h
 clear h
 by_cases c3 : (l0.length : Int) > 16
 ·rw [if_pos c3] at H
  have c3b0 : decide (16 < (l0.length : Int)) = true := decide_eq_true c3
  have c3b1 : decide (16 < l0.length) = true := decide_eq_true (by omega)
  clear c3
  obtain rfl := Option.some.inj H
  go_enter Try.func12, Try.ntmps12
  go_wp2
  repeat (go_quiet (fail); try go_wp2)
  go_ret
  exact ⟨by first | rfl | (simp; done) | (simp [*]; done), by repeat (first | exact Drawn0.refl _ | apply Drawn0.step)⟩
 ·rw [if_neg c3] at H
  have c3b0 : decide (16 < (l0.length : Int)) = false := decide_eq_false c3
  have c3b1 : decide (16 < l0.length) = false := decide_eq_false (by omega)
  clear c3
  have H' := Aside0.mk H
  clear H
  go_enter Try.func12, Try.ntmps12
  go_wp2
  repeat (go_quiet (fail); try go_wp2)
  go_loopg [5] k (fun kq v5 w' => ∃ (x5_1 : Int), v5 = .int .i64 x5_1 ∧ Aside0 (tidepoleref30_Check.l0 kq l0 a1 x5_1 = some r) ∧ Aside0 (kq ≤ k) ∧ Drawn0 w w')
  case atStart => exact ⟨(0), (by first | rfl | (simp; done) | (simp [*]; done)), H', ⟨Nat.le_refl _⟩, by repeat (first | exact Drawn0.refl _ | apply Drawn0.step)⟩
  case round =>
   clear H'
   try clear c1
   try clear p2
   try clear c3
   try clear c3b0
   try clear c3b1
   obtain ⟨x5_1, rfl, HA, HK1, ⟨m1, rfl⟩⟩ := hrel
   cases gk with
   | zero => exact absurd HA.out (by simp [tidepoleref30_Check.l0])
   | succ k1 =>
    have H := HA.out
    clear HA
    simp only [tidepoleref30_Check.l0] at H
    by_cases c4 : x5_1 < (l0.length : Int)
    ·rw [if_pos c4] at H
     have c4b0 : decide (x5_1 < (l0.length : Int)) = true := decide_eq_true c4
     clear c4
     have HC5 := Aside0.mk H
     clear H
     go_upto_region 6 with (fail)
     repeat (go_quiet (fail); go_upto_region 6 with (fail))
     go_cut [32] (fun v32 wc => ∃ (kq : Nat) (x32_4 : Bool), v32 = .bool x32_4 ∧ Aside0 (tidepoleref30_Check.j1 kq l0 a1 x5_1 x32_4 = some r) ∧ Aside0 (kq ≤ k1) ∧ Drawn0 w wc)
     case first =>
      have H := HC5.out
      clear HC5
      by_cases c6 : a1 = 0
      ·rw [if_pos c6] at H
       have c6b0 : (a1 == 0) = true := beq_iff_eq.mpr c6
       have c6b1 : (a1 != 0) = false := bne_eq_false_iff_eq.mpr c6
       clear c6
       (first | rw [c6b0] | (simp only [i64_w, i32_w]; rw [c6b0]) | skip)
       by_cases c7 : 0 ≤ x5_1
       ·rw [if_pos c7] at H
        have c7b0 : decide (0 ≤ x5_1) = true := decide_eq_true c7
        clear c7
        by_cases c8 : ((rd_T59 l0 x5_1).f0) < 0
        ·rw [if_pos c8] at H
         have c8b0 : decide (((rd_T59 l0 x5_1).f0) < 0) = true := decide_eq_true c8
         clear c8
         have H' := Aside0.mk H
         clear H
         have p101 : 0 ≤ (x5_1 : Int) := of_decide_eq_true (by first | (with_reducible assumption) | assumption)
         have q101 : x5_1 < (l0.length : Int) := of_decide_eq_true (by first | (with_reducible assumption) | assumption)
         obtain ⟨ad101, e101, hx101_0, hx101_1, hx101_2⟩ := at_T59 HR0.out x5_1 p101 q101
         cases e101
         replace p101 := eq_true p101
         replace q101 := eq_true q101
         go_wp2
         repeat (go_quiet (fail); try go_wp2)
         go_meet
         case rel => exact ⟨_, (true), (by first | rfl | (simp; done) | (simp [*]; done)), H', ⟨by have := HK1.out; first | omega | exact Nat.le_refl _⟩, by repeat (first | exact Drawn0.refl _ | apply Drawn0.step)⟩
        ·rw [if_neg c8] at H
         have c8b0 : decide (((rd_T59 l0 x5_1).f0) < 0) = false := decide_eq_false c8
         clear c8
         have H' := Aside0.mk H
         clear H
         have p101 : 0 ≤ (x5_1 : Int) := of_decide_eq_true (by first | (with_reducible assumption) | assumption)
         have q101 : x5_1 < (l0.length : Int) := of_decide_eq_true (by first | (with_reducible assumption) | assumption)
         obtain ⟨ad101, e101, hx101_0, hx101_1, hx101_2⟩ := at_T59 HR0.out x5_1 p101 q101
         cases e101
         replace p101 := eq_true p101
         replace q101 := eq_true q101
         have p102 : 0 ≤ (x5_1 : Int) := of_decide_eq_true (by first | (with_reducible assumption) | assumption)
         have q102 : x5_1 < (l0.length : Int) := of_decide_eq_true (by first | (with_reducible assumption) | assumption)
         obtain ⟨ad102, e102, hx102_0, hx102_1, hx102_2⟩ := at_T59 HR0.out x5_1 p102 q102
         obtain rfl : ad101 = ad102 := (by injection e102)
         replace p102 := eq_true p102
         replace q102 := eq_true q102
         go_wp2
         repeat (go_quiet (fail); try go_wp2)
         go_meet
         case rel => exact ⟨_, (decide (((rd_T59 l0 x5_1).f0) > 3)), (by first | rfl | (simp; done) | (simp [*]; done)), H', ⟨by have := HK1.out; first | omega | exact Nat.le_refl _⟩, by repeat (first | exact Drawn0.refl _ | apply Drawn0.step)⟩
       ·rw [if_neg c7] at H
        exact absurd H (by simp)
      ·rw [if_neg c6] at H
       have c6b0 : (a1 == 0) = false := beq_eq_false_iff_ne.mpr c6
       have c6b1 : (a1 != 0) = true := bne_iff_ne.mpr c6
       (first | rw [c6b0] | (simp only [i64_w, i32_w]; rw [c6b0]) | skip)
       have H' := Aside0.mk H
       clear H
       go_wp2
       repeat (go_quiet (fail); try go_wp2)
       go_meet
       case rel => exact ⟨_, (false), (by first | rfl | (simp; done) | (simp [*]; done)), H', ⟨by have := HK1.out; first | omega | exact Nat.le_refl _⟩, by repeat (first | exact Drawn0.refl _ | apply Drawn0.step)⟩
     case rest =>
      clear HC5
      try clear c1
      try clear p1
      try clear q1
      try clear hx1
      try clear p2
      try clear c3
      try clear c3b0
      try clear c3b1
      try clear c4
      try clear c4b0
      try clear c6
      try clear c6b0
      try clear c6b1
      try clear c7
      try clear c7b0
      try clear c8
      try clear c8b0
      try clear hx101_0
      try clear hx101_1
      try clear hx101_2
      try clear hx102_0
      try clear hx102_1
      try clear hx102_2
      try clear p101
      try clear p102
      try clear p2
      try clear q101
      try clear q102
      obtain ⟨kq, x32_4, rfl, HA, HJ4, ⟨mc4, rfl⟩⟩ := hcut
      cases kq with
      | zero => exact absurd HA.out (by simp [tidepoleref30_Check.j1])
      | succ kj4 =>
       have H := HA.out
       clear HA
       simp only [tidepoleref30_Check.j1] at H
       by_cases c9 : x32_4 = true
       ·subst c9
        have H1 : (some 11) = some r := by rw [if_pos rfl] at H; exact H
        clear H
        have H := H1
        clear H1
        obtain rfl := Option.some.inj H
        go_wp2
        repeat (go_quiet (fail); try go_wp2)
        go_ret
        exact ⟨by first | rfl | (simp; done) | (simp [*]; done), by repeat (first | exact Drawn0.refl _ | apply Drawn0.step)⟩
       ·replace c9 := Bool.eq_false_iff.mpr c9
        subst c9
        have H1 : (if 0 ≤ x5_1 then (if x5_1 < (l0.length : Int) then ((tidepoleref30_Name.f ((rd_T59 l0 x5_1).f1)).bind fun t104 => (if t104 = true then (if (((rd_T59 l0 x5_1).f2).size : Int) > 200 then (some 17) else (if a1 = 1 then (if x5_1 > 0 then (if 0 ≤ (wrap64 (x5_1 - 1)) then (if (wrap64 (x5_1 - 1)) < (l0.length : Int) then (if ((Op.bytesLess (((rd_T59 l0 (wrap64 (x5_1 - 1))).f1).toList) (((rd_T59 l0 x5_1).f1).toList)) = true) then (tidepoleref30_Check.l0 kj4 l0 a1 (wrap64 (x5_1 + 1))) else (some 11)) else (none)) else (none)) else (tidepoleref30_Check.l0 kj4 l0 a1 (wrap64 (x5_1 + 1)))) else (tidepoleref30_Check.l0 kj4 l0 a1 (wrap64 (x5_1 + 1))))) else (some 10))) else (none)) else (none)) = some r := by rw [if_neg (show ¬ (false = true) by decide)] at H; exact H
        clear H
        have H := H1
        clear H1
        by_cases c10 : 0 ≤ x5_1
        ·rw [if_pos c10] at H
         have c10b0 : decide (0 ≤ x5_1) = true := decide_eq_true c10
         clear c10
         by_cases c11 : x5_1 < (l0.length : Int)
         ·rw [if_pos c11] at H
          have c11b0 : decide (x5_1 < (l0.length : Int)) = true := decide_eq_true c11
          clear c11
          replace H := Option.bind_eq_some_iff.mp H
          obtain ⟨t104, A120, H⟩ := H
          replace H : (if t104 = true then (if (((rd_T59 l0 x5_1).f2).size : Int) > 200 then (some 17) else (if a1 = 1 then (if x5_1 > 0 then (if 0 ≤ (wrap64 (x5_1 - 1)) then (if (wrap64 (x5_1 - 1)) < (l0.length : Int) then (if ((Op.bytesLess (((rd_T59 l0 (wrap64 (x5_1 - 1))).f1).toList) (((rd_T59 l0 x5_1).f1).toList)) = true) then (tidepoleref30_Check.l0 kj4 l0 a1 (wrap64 (x5_1 + 1))) else (some 11)) else (none)) else (none)) else (tidepoleref30_Check.l0 kj4 l0 a1 (wrap64 (x5_1 + 1)))) else (tidepoleref30_Check.l0 kj4 l0 a1 (wrap64 (x5_1 + 1))))) else (some 10)) = some r := H
          have A12 := Aside0.mk A120
          clear A120
          by_cases c13 : t104 = true
          ·subst c13
           have H1 : (if (((rd_T59 l0 x5_1).f2).size : Int) > 200 then (some 17) else (if a1 = 1 then (if x5_1 > 0 then (if 0 ≤ (wrap64 (x5_1 - 1)) then (if (wrap64 (x5_1 - 1)) < (l0.length : Int) then (if ((Op.bytesLess (((rd_T59 l0 (wrap64 (x5_1 - 1))).f1).toList) (((rd_T59 l0 x5_1).f1).toList)) = true) then (tidepoleref30_Check.l0 kj4 l0 a1 (wrap64 (x5_1 + 1))) else (some 11)) else (none)) else (none)) else (tidepoleref30_Check.l0 kj4 l0 a1 (wrap64 (x5_1 + 1)))) else (tidepoleref30_Check.l0 kj4 l0 a1 (wrap64 (x5_1 + 1))))) = some r := by rw [if_pos rfl] at H; exact H
           clear H
           have H := H1
           clear H1
           by_cases c14 : (((rd_T59 l0 x5_1).f2).size : Int) > 200
           ·rw [if_pos c14] at H
            have c14b0 : decide (200 < (((rd_T59 l0 x5_1).f2).size : Int)) = true := decide_eq_true c14
            have c14b1 : decide (200 < ((rd_T59 l0 x5_1).f2).size) = true := decide_eq_true (by omega)
            clear c14
            obtain rfl := Option.some.inj H
            have p103 : 0 ≤ (x5_1 : Int) := of_decide_eq_true (by first | (with_reducible assumption) | assumption)
            have q103 : x5_1 < (l0.length : Int) := of_decide_eq_true (by first | (with_reducible assumption) | assumption)
            obtain ⟨ad103, e103, hx103_0, hx103_1, hx103_2⟩ := at_T59 HR0.out x5_1 p103 q103
            cases e103
            replace p103 := eq_true p103
            replace q103 := eq_true q103
            go_wp2_with (first | (go_at_call 28; (with_reducible refine (tidepoleref30_Name.calls ((rd_T59 l0 x5_1).f1) true _ A12.out).mono ?_); rintro e w' ⟨rfl, ⟨nd, rfl⟩⟩; (try first | exact ⟨rfl, _, World.drewN_drewN _ _ _⟩ | exact ⟨rfl, _, Eq.trans (World.drewN_drewN _ _ _) (congrArg (World.drewN _) (Nat.add_assoc _ _ _))⟩); clear A12; have p105 : 0 ≤ (x5_1 : Int) := of_decide_eq_true (by first | (with_reducible assumption) | assumption); have q105 : x5_1 < (l0.length : Int) := of_decide_eq_true (by first | (with_reducible assumption) | assumption); obtain ⟨ad105, e105, hx105_0, hx105_1, hx105_2⟩ := at_T59 HR0.out x5_1 p105 q105; obtain rfl : ad103 = ad105 := (by injection e105); replace p105 := eq_true p105; replace q105 := eq_true q105))
            repeat (go_quiet (first | (go_at_call 28; (with_reducible refine (tidepoleref30_Name.calls ((rd_T59 l0 x5_1).f1) true _ A12.out).mono ?_); rintro e w' ⟨rfl, ⟨nd, rfl⟩⟩; (try first | exact ⟨rfl, _, World.drewN_drewN _ _ _⟩ | exact ⟨rfl, _, Eq.trans (World.drewN_drewN _ _ _) (congrArg (World.drewN _) (Nat.add_assoc _ _ _))⟩); clear A12; have p105 : 0 ≤ (x5_1 : Int) := of_decide_eq_true (by first | (with_reducible assumption) | assumption); have q105 : x5_1 < (l0.length : Int) := of_decide_eq_true (by first | (with_reducible assumption) | assumption); obtain ⟨ad105, e105, hx105_0, hx105_1, hx105_2⟩ := at_T59 HR0.out x5_1 p105 q105; obtain rfl : ad103 = ad105 := (by injection e105); replace p105 := eq_true p105; replace q105 := eq_true q105)); try go_wp2_with (first | (go_at_call 28; (with_reducible refine (tidepoleref30_Name.calls ((rd_T59 l0 x5_1).f1) true _ A12.out).mono ?_); rintro e w' ⟨rfl, ⟨nd, rfl⟩⟩; (try first | exact ⟨rfl, _, World.drewN_drewN _ _ _⟩ | exact ⟨rfl, _, Eq.trans (World.drewN_drewN _ _ _) (congrArg (World.drewN _) (Nat.add_assoc _ _ _))⟩); clear A12; have p105 : 0 ≤ (x5_1 : Int) := of_decide_eq_true (by first | (with_reducible assumption) | assumption); have q105 : x5_1 < (l0.length : Int) := of_decide_eq_true (by first | (with_reducible assumption) | assumption); obtain ⟨ad105, e105, hx105_0, hx105_1, hx105_2⟩ := at_T59 HR0.out x5_1 p105 q105; obtain rfl : ad103 = ad105 := (by injection e105); replace p105 := eq_true p105; replace q105 := eq_true q105)))
            go_ret
            exact ⟨by first | rfl | (simp; done) | (simp [*]; done), by repeat (first | exact Drawn0.refl _ | apply Drawn0.step)⟩
           ·rw [if_neg c14] at H
            have c14b0 : decide (200 < (((rd_T59 l0 x5_1).f2).size : Int)) = false := decide_eq_false c14
            have c14b1 : decide (200 < ((rd_T59 l0 x5_1).f2).size) = false := decide_eq_false (by omega)
            clear c14
            by_cases c15 : a1 = 1
            ·rw [if_pos c15] at H
             have c15b0 : (a1 == 1) = true := beq_iff_eq.mpr c15
             have c15b1 : (a1 != 1) = false := bne_eq_false_iff_eq.mpr c15
             clear c15
             by_cases c16 : x5_1 > 0
             ·rw [if_pos c16] at H
              have c16b0 : decide (0 < x5_1) = true := decide_eq_true c16
              clear c16
              obtain ⟨ji17, hji17⟩ : ∃ j_ : Int, (wrap64 (x5_1 - 1)) = j_ := ⟨_, rfl⟩
              replace H : (if 0 ≤ (ji17) then (if (ji17) < (l0.length : Int) then (if ((Op.bytesLess (((rd_T59 l0 (ji17)).f1).toList) (((rd_T59 l0 x5_1).f1).toList)) = true) then (tidepoleref30_Check.l0 kj4 l0 a1 (wrap64 (x5_1 + 1))) else (some 11)) else (none)) else (none)) = some r := by first | (rw [hji17] at H; exact H) | (simp only [hji17] at H ⊢; exact H)
              (try rw [hji17] at A12)
              have hji17w : (IntKind.i64.wrap (x5_1 - 1)) = ji17 := (i64_w _).trans hji17
              by_cases c18 : 0 ≤ (ji17)
              ·rw [if_pos c18] at H
               have c18b0 : decide (0 ≤ (ji17)) = true := decide_eq_true c18
               clear c18
               by_cases c19 : (ji17) < (l0.length : Int)
               ·rw [if_pos c19] at H
                have c19b0 : decide ((ji17) < (l0.length : Int)) = true := decide_eq_true c19
                clear c19
                by_cases c20 : ((Op.bytesLess (((rd_T59 l0 (ji17)).f1).toList) (((rd_T59 l0 x5_1).f1).toList)) = true)
                ·rw [if_pos c20] at H
                 have c20b0 : (Op.bytesLess (((rd_T59 l0 (ji17)).f1).toList) (((rd_T59 l0 x5_1).f1).toList)) = true := c20
                 clear c20
                 have H' := Aside0.mk H
                 clear H
                 have p103 : 0 ≤ (x5_1 : Int) := of_decide_eq_true (by first | (with_reducible assumption) | assumption)
                 have q103 : x5_1 < (l0.length : Int) := of_decide_eq_true (by first | (with_reducible assumption) | assumption)
                 obtain ⟨ad103, e103, hx103_0, hx103_1, hx103_2⟩ := at_T59 HR0.out x5_1 p103 q103
                 cases e103
                 replace p103 := eq_true p103
                 replace q103 := eq_true q103
                 go_wp2_with (first | (go_at_call 28; (with_reducible refine (tidepoleref30_Name.calls ((rd_T59 l0 x5_1).f1) true _ A12.out).mono ?_); rintro e w' ⟨rfl, ⟨nd, rfl⟩⟩; (try first | exact ⟨rfl, _, World.drewN_drewN _ _ _⟩ | exact ⟨rfl, _, Eq.trans (World.drewN_drewN _ _ _) (congrArg (World.drewN _) (Nat.add_assoc _ _ _))⟩); clear A12; have p105 : 0 ≤ (x5_1 : Int) := of_decide_eq_true (by first | (with_reducible assumption) | assumption); have q105 : x5_1 < (l0.length : Int) := of_decide_eq_true (by first | (with_reducible assumption) | assumption); obtain ⟨ad105, e105, hx105_0, hx105_1, hx105_2⟩ := at_T59 HR0.out x5_1 p105 q105; obtain rfl : ad103 = ad105 := (by injection e105); replace p105 := eq_true p105; replace q105 := eq_true q105; have p106 : 0 ≤ (x5_1 : Int) := of_decide_eq_true (by first | (with_reducible assumption) | assumption); have q106 : x5_1 < (l0.length : Int) := of_decide_eq_true (by first | (with_reducible assumption) | assumption); obtain ⟨ad106, e106, hx106_0, hx106_1, hx106_2⟩ := at_T59 HR0.out x5_1 p106 q106; obtain rfl : ad103 = ad106 := (by injection e106); replace p106 := eq_true p106; replace q106 := eq_true q106; have p107 : 0 ≤ ((ji17) : Int) := of_decide_eq_true (by first | (with_reducible assumption) | assumption); have q107 : (ji17) < (l0.length : Int) := of_decide_eq_true (by first | (with_reducible assumption) | assumption); obtain ⟨ad107, e107, hx107_0, hx107_1, hx107_2⟩ := at_T59 HR0.out (ji17) p107 q107; obtain rfl : ad103 = ad107 := (by injection e107); replace p107 := eq_true p107; replace q107 := eq_true q107))
                 repeat (go_quiet (first | (go_at_call 28; (with_reducible refine (tidepoleref30_Name.calls ((rd_T59 l0 x5_1).f1) true _ A12.out).mono ?_); rintro e w' ⟨rfl, ⟨nd, rfl⟩⟩; (try first | exact ⟨rfl, _, World.drewN_drewN _ _ _⟩ | exact ⟨rfl, _, Eq.trans (World.drewN_drewN _ _ _) (congrArg (World.drewN _) (Nat.add_assoc _ _ _))⟩); clear A12; have p105 : 0 ≤ (x5_1 : Int) := of_decide_eq_true (by first | (with_reducible assumption) | assumption); have q105 : x5_1 < (l0.length : Int) := of_decide_eq_true (by first | (with_reducible assumption) | assumption); obtain ⟨ad105, e105, hx105_0, hx105_1, hx105_2⟩ := at_T59 HR0.out x5_1 p105 q105; obtain rfl : ad103 = ad105 := (by injection e105); replace p105 := eq_true p105; replace q105 := eq_true q105; have p106 : 0 ≤ (x5_1 : Int) := of_decide_eq_true (by first | (with_reducible assumption) | assumption); have q106 : x5_1 < (l0.length : Int) := of_decide_eq_true (by first | (with_reducible assumption) | assumption); obtain ⟨ad106, e106, hx106_0, hx106_1, hx106_2⟩ := at_T59 HR0.out x5_1 p106 q106; obtain rfl : ad103 = ad106 := (by injection e106); replace p106 := eq_true p106; replace q106 := eq_true q106; have p107 : 0 ≤ ((ji17) : Int) := of_decide_eq_true (by first | (with_reducible assumption) | assumption); have q107 : (ji17) < (l0.length : Int) := of_decide_eq_true (by first | (with_reducible assumption) | assumption); obtain ⟨ad107, e107, hx107_0, hx107_1, hx107_2⟩ := at_T59 HR0.out (ji17) p107 q107; obtain rfl : ad103 = ad107 := (by injection e107); replace p107 := eq_true p107; replace q107 := eq_true q107)); try go_wp2_with (first | (go_at_call 28; (with_reducible refine (tidepoleref30_Name.calls ((rd_T59 l0 x5_1).f1) true _ A12.out).mono ?_); rintro e w' ⟨rfl, ⟨nd, rfl⟩⟩; (try first | exact ⟨rfl, _, World.drewN_drewN _ _ _⟩ | exact ⟨rfl, _, Eq.trans (World.drewN_drewN _ _ _) (congrArg (World.drewN _) (Nat.add_assoc _ _ _))⟩); clear A12; have p105 : 0 ≤ (x5_1 : Int) := of_decide_eq_true (by first | (with_reducible assumption) | assumption); have q105 : x5_1 < (l0.length : Int) := of_decide_eq_true (by first | (with_reducible assumption) | assumption); obtain ⟨ad105, e105, hx105_0, hx105_1, hx105_2⟩ := at_T59 HR0.out x5_1 p105 q105; obtain rfl : ad103 = ad105 := (by injection e105); replace p105 := eq_true p105; replace q105 := eq_true q105; have p106 : 0 ≤ (x5_1 : Int) := of_decide_eq_true (by first | (with_reducible assumption) | assumption); have q106 : x5_1 < (l0.length : Int) := of_decide_eq_true (by first | (with_reducible assumption) | assumption); obtain ⟨ad106, e106, hx106_0, hx106_1, hx106_2⟩ := at_T59 HR0.out x5_1 p106 q106; obtain rfl : ad103 = ad106 := (by injection e106); replace p106 := eq_true p106; replace q106 := eq_true q106; have p107 : 0 ≤ ((ji17) : Int) := of_decide_eq_true (by first | (with_reducible assumption) | assumption); have q107 : (ji17) < (l0.length : Int) := of_decide_eq_true (by first | (with_reducible assumption) | assumption); obtain ⟨ad107, e107, hx107_0, hx107_1, hx107_2⟩ := at_T59 HR0.out (ji17) p107 q107; obtain rfl : ad103 = ad107 := (by injection e107); replace p107 := eq_true p107; replace q107 := eq_true q107)))
                 go_roundg kj4
                 case measure => have := HK1.out; have := HJ4.out; omega
                 case rel => exact ⟨(wrap64 (x5_1 + 1)), (by first | rfl | (simp; done) | (simp [*]; done)), H', ⟨by have := HK1.out; have := HJ4.out; omega⟩, by repeat (first | exact Drawn0.refl _ | apply Drawn0.step)⟩
                ·rw [if_neg c20] at H
                 have c20b0 : (Op.bytesLess (((rd_T59 l0 (ji17)).f1).toList) (((rd_T59 l0 x5_1).f1).toList)) = false := by simpa using c20
                 clear c20
                 obtain rfl := Option.some.inj H
                 have p103 : 0 ≤ (x5_1 : Int) := of_decide_eq_true (by first | (with_reducible assumption) | assumption)
                 have q103 : x5_1 < (l0.length : Int) := of_decide_eq_true (by first | (with_reducible assumption) | assumption)
                 obtain ⟨ad103, e103, hx103_0, hx103_1, hx103_2⟩ := at_T59 HR0.out x5_1 p103 q103
                 cases e103
                 replace p103 := eq_true p103
                 replace q103 := eq_true q103
                 go_wp2_with (first | (go_at_call 28; (with_reducible refine (tidepoleref30_Name.calls ((rd_T59 l0 x5_1).f1) true _ A12.out).mono ?_); rintro e w' ⟨rfl, ⟨nd, rfl⟩⟩; (try first | exact ⟨rfl, _, World.drewN_drewN _ _ _⟩ | exact ⟨rfl, _, Eq.trans (World.drewN_drewN _ _ _) (congrArg (World.drewN _) (Nat.add_assoc _ _ _))⟩); clear A12; have p105 : 0 ≤ (x5_1 : Int) := of_decide_eq_true (by first | (with_reducible assumption) | assumption); have q105 : x5_1 < (l0.length : Int) := of_decide_eq_true (by first | (with_reducible assumption) | assumption); obtain ⟨ad105, e105, hx105_0, hx105_1, hx105_2⟩ := at_T59 HR0.out x5_1 p105 q105; obtain rfl : ad103 = ad105 := (by injection e105); replace p105 := eq_true p105; replace q105 := eq_true q105; have p106 : 0 ≤ (x5_1 : Int) := of_decide_eq_true (by first | (with_reducible assumption) | assumption); have q106 : x5_1 < (l0.length : Int) := of_decide_eq_true (by first | (with_reducible assumption) | assumption); obtain ⟨ad106, e106, hx106_0, hx106_1, hx106_2⟩ := at_T59 HR0.out x5_1 p106 q106; obtain rfl : ad103 = ad106 := (by injection e106); replace p106 := eq_true p106; replace q106 := eq_true q106; have p107 : 0 ≤ ((ji17) : Int) := of_decide_eq_true (by first | (with_reducible assumption) | assumption); have q107 : (ji17) < (l0.length : Int) := of_decide_eq_true (by first | (with_reducible assumption) | assumption); obtain ⟨ad107, e107, hx107_0, hx107_1, hx107_2⟩ := at_T59 HR0.out (ji17) p107 q107; obtain rfl : ad103 = ad107 := (by injection e107); replace p107 := eq_true p107; replace q107 := eq_true q107))
                 repeat (go_quiet (first | (go_at_call 28; (with_reducible refine (tidepoleref30_Name.calls ((rd_T59 l0 x5_1).f1) true _ A12.out).mono ?_); rintro e w' ⟨rfl, ⟨nd, rfl⟩⟩; (try first | exact ⟨rfl, _, World.drewN_drewN _ _ _⟩ | exact ⟨rfl, _, Eq.trans (World.drewN_drewN _ _ _) (congrArg (World.drewN _) (Nat.add_assoc _ _ _))⟩); clear A12; have p105 : 0 ≤ (x5_1 : Int) := of_decide_eq_true (by first | (with_reducible assumption) | assumption); have q105 : x5_1 < (l0.length : Int) := of_decide_eq_true (by first | (with_reducible assumption) | assumption); obtain ⟨ad105, e105, hx105_0, hx105_1, hx105_2⟩ := at_T59 HR0.out x5_1 p105 q105; obtain rfl : ad103 = ad105 := (by injection e105); replace p105 := eq_true p105; replace q105 := eq_true q105; have p106 : 0 ≤ (x5_1 : Int) := of_decide_eq_true (by first | (with_reducible assumption) | assumption); have q106 : x5_1 < (l0.length : Int) := of_decide_eq_true (by first | (with_reducible assumption) | assumption); obtain ⟨ad106, e106, hx106_0, hx106_1, hx106_2⟩ := at_T59 HR0.out x5_1 p106 q106; obtain rfl : ad103 = ad106 := (by injection e106); replace p106 := eq_true p106; replace q106 := eq_true q106; have p107 : 0 ≤ ((ji17) : Int) := of_decide_eq_true (by first | (with_reducible assumption) | assumption); have q107 : (ji17) < (l0.length : Int) := of_decide_eq_true (by first | (with_reducible assumption) | assumption); obtain ⟨ad107, e107, hx107_0, hx107_1, hx107_2⟩ := at_T59 HR0.out (ji17) p107 q107; obtain rfl : ad103 = ad107 := (by injection e107); replace p107 := eq_true p107; replace q107 := eq_true q107)); try go_wp2_with (first | (go_at_call 28; (with_reducible refine (tidepoleref30_Name.calls ((rd_T59 l0 x5_1).f1) true _ A12.out).mono ?_); rintro e w' ⟨rfl, ⟨nd, rfl⟩⟩; (try first | exact ⟨rfl, _, World.drewN_drewN _ _ _⟩ | exact ⟨rfl, _, Eq.trans (World.drewN_drewN _ _ _) (congrArg (World.drewN _) (Nat.add_assoc _ _ _))⟩); clear A12; have p105 : 0 ≤ (x5_1 : Int) := of_decide_eq_true (by first | (with_reducible assumption) | assumption); have q105 : x5_1 < (l0.length : Int) := of_decide_eq_true (by first | (with_reducible assumption) | assumption); obtain ⟨ad105, e105, hx105_0, hx105_1, hx105_2⟩ := at_T59 HR0.out x5_1 p105 q105; obtain rfl : ad103 = ad105 := (by injection e105); replace p105 := eq_true p105; replace q105 := eq_true q105; have p106 : 0 ≤ (x5_1 : Int) := of_decide_eq_true (by first | (with_reducible assumption) | assumption); have q106 : x5_1 < (l0.length : Int) := of_decide_eq_true (by first | (with_reducible assumption) | assumption); obtain ⟨ad106, e106, hx106_0, hx106_1, hx106_2⟩ := at_T59 HR0.out x5_1 p106 q106; obtain rfl : ad103 = ad106 := (by injection e106); replace p106 := eq_true p106; replace q106 := eq_true q106; have p107 : 0 ≤ ((ji17) : Int) := of_decide_eq_true (by first | (with_reducible assumption) | assumption); have q107 : (ji17) < (l0.length : Int) := of_decide_eq_true (by first | (with_reducible assumption) | assumption); obtain ⟨ad107, e107, hx107_0, hx107_1, hx107_2⟩ := at_T59 HR0.out (ji17) p107 q107; obtain rfl : ad103 = ad107 := (by injection e107); replace p107 := eq_true p107; replace q107 := eq_true q107)))
                 go_ret
                 exact ⟨by first | rfl | (simp; done) | (simp only [← hji17] <;> (first | rfl | simp)) | (simp [*]; done), by repeat (first | exact Drawn0.refl _ | apply Drawn0.step)⟩
               ·rw [if_neg c19] at H
                exact absurd H (by simp)
              ·rw [if_neg c18] at H
               exact absurd H (by simp)
             ·rw [if_neg c16] at H
              have c16b0 : decide (0 < x5_1) = false := decide_eq_false c16
              clear c16
              have H' := Aside0.mk H
              clear H
              have p103 : 0 ≤ (x5_1 : Int) := of_decide_eq_true (by first | (with_reducible assumption) | assumption)
              have q103 : x5_1 < (l0.length : Int) := of_decide_eq_true (by first | (with_reducible assumption) | assumption)
              obtain ⟨ad103, e103, hx103_0, hx103_1, hx103_2⟩ := at_T59 HR0.out x5_1 p103 q103
              cases e103
              replace p103 := eq_true p103
              replace q103 := eq_true q103
              go_wp2_with (first | (go_at_call 28; (with_reducible refine (tidepoleref30_Name.calls ((rd_T59 l0 x5_1).f1) true _ A12.out).mono ?_); rintro e w' ⟨rfl, ⟨nd, rfl⟩⟩; (try first | exact ⟨rfl, _, World.drewN_drewN _ _ _⟩ | exact ⟨rfl, _, Eq.trans (World.drewN_drewN _ _ _) (congrArg (World.drewN _) (Nat.add_assoc _ _ _))⟩); clear A12; have p105 : 0 ≤ (x5_1 : Int) := of_decide_eq_true (by first | (with_reducible assumption) | assumption); have q105 : x5_1 < (l0.length : Int) := of_decide_eq_true (by first | (with_reducible assumption) | assumption); obtain ⟨ad105, e105, hx105_0, hx105_1, hx105_2⟩ := at_T59 HR0.out x5_1 p105 q105; obtain rfl : ad103 = ad105 := (by injection e105); replace p105 := eq_true p105; replace q105 := eq_true q105))
              repeat (go_quiet (first | (go_at_call 28; (with_reducible refine (tidepoleref30_Name.calls ((rd_T59 l0 x5_1).f1) true _ A12.out).mono ?_); rintro e w' ⟨rfl, ⟨nd, rfl⟩⟩; (try first | exact ⟨rfl, _, World.drewN_drewN _ _ _⟩ | exact ⟨rfl, _, Eq.trans (World.drewN_drewN _ _ _) (congrArg (World.drewN _) (Nat.add_assoc _ _ _))⟩); clear A12; have p105 : 0 ≤ (x5_1 : Int) := of_decide_eq_true (by first | (with_reducible assumption) | assumption); have q105 : x5_1 < (l0.length : Int) := of_decide_eq_true (by first | (with_reducible assumption) | assumption); obtain ⟨ad105, e105, hx105_0, hx105_1, hx105_2⟩ := at_T59 HR0.out x5_1 p105 q105; obtain rfl : ad103 = ad105 := (by injection e105); replace p105 := eq_true p105; replace q105 := eq_true q105)); try go_wp2_with (first | (go_at_call 28; (with_reducible refine (tidepoleref30_Name.calls ((rd_T59 l0 x5_1).f1) true _ A12.out).mono ?_); rintro e w' ⟨rfl, ⟨nd, rfl⟩⟩; (try first | exact ⟨rfl, _, World.drewN_drewN _ _ _⟩ | exact ⟨rfl, _, Eq.trans (World.drewN_drewN _ _ _) (congrArg (World.drewN _) (Nat.add_assoc _ _ _))⟩); clear A12; have p105 : 0 ≤ (x5_1 : Int) := of_decide_eq_true (by first | (with_reducible assumption) | assumption); have q105 : x5_1 < (l0.length : Int) := of_decide_eq_true (by first | (with_reducible assumption) | assumption); obtain ⟨ad105, e105, hx105_0, hx105_1, hx105_2⟩ := at_T59 HR0.out x5_1 p105 q105; obtain rfl : ad103 = ad105 := (by injection e105); replace p105 := eq_true p105; replace q105 := eq_true q105)))
              go_roundg kj4
              case measure => have := HK1.out; have := HJ4.out; omega
              case rel => exact ⟨(wrap64 (x5_1 + 1)), (by first | rfl | (simp; done) | (simp [*]; done)), H', ⟨by have := HK1.out; have := HJ4.out; omega⟩, by repeat (first | exact Drawn0.refl _ | apply Drawn0.step)⟩
            ·rw [if_neg c15] at H
             have c15b0 : (a1 == 1) = false := beq_eq_false_iff_ne.mpr c15
             have c15b1 : (a1 != 1) = true := bne_iff_ne.mpr c15
             have H' := Aside0.mk H
             clear H
             have p103 : 0 ≤ (x5_1 : Int) := of_decide_eq_true (by first | (with_reducible assumption) | assumption)
             have q103 : x5_1 < (l0.length : Int) := of_decide_eq_true (by first | (with_reducible assumption) | assumption)
             obtain ⟨ad103, e103, hx103_0, hx103_1, hx103_2⟩ := at_T59 HR0.out x5_1 p103 q103
             cases e103
             replace p103 := eq_true p103
             replace q103 := eq_true q103
             go_wp2_with (first | (go_at_call 28; (with_reducible refine (tidepoleref30_Name.calls ((rd_T59 l0 x5_1).f1) true _ A12.out).mono ?_); rintro e w' ⟨rfl, ⟨nd, rfl⟩⟩; (try first | exact ⟨rfl, _, World.drewN_drewN _ _ _⟩ | exact ⟨rfl, _, Eq.trans (World.drewN_drewN _ _ _) (congrArg (World.drewN _) (Nat.add_assoc _ _ _))⟩); clear A12; have p105 : 0 ≤ (x5_1 : Int) := of_decide_eq_true (by first | (with_reducible assumption) | assumption); have q105 : x5_1 < (l0.length : Int) := of_decide_eq_true (by first | (with_reducible assumption) | assumption); obtain ⟨ad105, e105, hx105_0, hx105_1, hx105_2⟩ := at_T59 HR0.out x5_1 p105 q105; obtain rfl : ad103 = ad105 := (by injection e105); replace p105 := eq_true p105; replace q105 := eq_true q105))
             repeat (go_quiet (first | (go_at_call 28; (with_reducible refine (tidepoleref30_Name.calls ((rd_T59 l0 x5_1).f1) true _ A12.out).mono ?_); rintro e w' ⟨rfl, ⟨nd, rfl⟩⟩; (try first | exact ⟨rfl, _, World.drewN_drewN _ _ _⟩ | exact ⟨rfl, _, Eq.trans (World.drewN_drewN _ _ _) (congrArg (World.drewN _) (Nat.add_assoc _ _ _))⟩); clear A12; have p105 : 0 ≤ (x5_1 : Int) := of_decide_eq_true (by first | (with_reducible assumption) | assumption); have q105 : x5_1 < (l0.length : Int) := of_decide_eq_true (by first | (with_reducible assumption) | assumption); obtain ⟨ad105, e105, hx105_0, hx105_1, hx105_2⟩ := at_T59 HR0.out x5_1 p105 q105; obtain rfl : ad103 = ad105 := (by injection e105); replace p105 := eq_true p105; replace q105 := eq_true q105)); try go_wp2_with (first | (go_at_call 28; (with_reducible refine (tidepoleref30_Name.calls ((rd_T59 l0 x5_1).f1) true _ A12.out).mono ?_); rintro e w' ⟨rfl, ⟨nd, rfl⟩⟩; (try first | exact ⟨rfl, _, World.drewN_drewN _ _ _⟩ | exact ⟨rfl, _, Eq.trans (World.drewN_drewN _ _ _) (congrArg (World.drewN _) (Nat.add_assoc _ _ _))⟩); clear A12; have p105 : 0 ≤ (x5_1 : Int) := of_decide_eq_true (by first | (with_reducible assumption) | assumption); have q105 : x5_1 < (l0.length : Int) := of_decide_eq_true (by first | (with_reducible assumption) | assumption); obtain ⟨ad105, e105, hx105_0, hx105_1, hx105_2⟩ := at_T59 HR0.out x5_1 p105 q105; obtain rfl : ad103 = ad105 := (by injection e105); replace p105 := eq_true p105; replace q105 := eq_true q105)))
             go_roundg kj4
             case measure => have := HK1.out; have := HJ4.out; omega
             case rel => exact ⟨(wrap64 (x5_1 + 1)), (by first | rfl | (simp; done) | (simp [*]; done)), H', ⟨by have := HK1.out; have := HJ4.out; omega⟩, by repeat (first | exact Drawn0.refl _ | apply Drawn0.step)⟩
          ·replace c13 := Bool.eq_false_iff.mpr c13
           subst c13
           have H1 : (some 10) = some r := by rw [if_neg (show ¬ (false = true) by decide)] at H; exact H
           clear H
           have H := H1
           clear H1
           obtain rfl := Option.some.inj H
           have p103 : 0 ≤ (x5_1 : Int) := of_decide_eq_true (by first | (with_reducible assumption) | assumption)
           have q103 : x5_1 < (l0.length : Int) := of_decide_eq_true (by first | (with_reducible assumption) | assumption)
           obtain ⟨ad103, e103, hx103_0, hx103_1, hx103_2⟩ := at_T59 HR0.out x5_1 p103 q103
           cases e103
           replace p103 := eq_true p103
           replace q103 := eq_true q103
           go_wp2_with (first | (go_at_call 28; (with_reducible refine (tidepoleref30_Name.calls ((rd_T59 l0 x5_1).f1) false _ A12.out).mono ?_); rintro e w' ⟨rfl, ⟨nd, rfl⟩⟩; (try first | exact ⟨rfl, _, World.drewN_drewN _ _ _⟩ | exact ⟨rfl, _, Eq.trans (World.drewN_drewN _ _ _) (congrArg (World.drewN _) (Nat.add_assoc _ _ _))⟩); clear A12))
           repeat (go_quiet (first | (go_at_call 28; (with_reducible refine (tidepoleref30_Name.calls ((rd_T59 l0 x5_1).f1) false _ A12.out).mono ?_); rintro e w' ⟨rfl, ⟨nd, rfl⟩⟩; (try first | exact ⟨rfl, _, World.drewN_drewN _ _ _⟩ | exact ⟨rfl, _, Eq.trans (World.drewN_drewN _ _ _) (congrArg (World.drewN _) (Nat.add_assoc _ _ _))⟩); clear A12)); try go_wp2_with (first | (go_at_call 28; (with_reducible refine (tidepoleref30_Name.calls ((rd_T59 l0 x5_1).f1) false _ A12.out).mono ?_); rintro e w' ⟨rfl, ⟨nd, rfl⟩⟩; (try first | exact ⟨rfl, _, World.drewN_drewN _ _ _⟩ | exact ⟨rfl, _, Eq.trans (World.drewN_drewN _ _ _) (congrArg (World.drewN _) (Nat.add_assoc _ _ _))⟩); clear A12)))
           go_ret
           exact ⟨by first | rfl | (simp; done) | (simp [*]; done), by repeat (first | exact Drawn0.refl _ | apply Drawn0.step)⟩
         ·rw [if_neg c11] at H
          exact absurd H (by simp)
        ·rw [if_neg c10] at H
         exact absurd H (by simp)
    ·rw [if_neg c4] at H
     have c4b0 : decide (x5_1 < (l0.length : Int)) = false := decide_eq_false c4
     clear c4
     obtain rfl := Option.some.inj H
     go_wp2
     repeat (go_quiet (fail); try go_wp2)
     go_ret
     exact ⟨by first | rfl | (simp; done) | (simp [*]; done), by repeat (first | exact Drawn0.refl _ | apply Drawn0.step)⟩
end Go.Proofs.Ytbfiacnmielajaa.P
