/- Walks by hand: pairs.Find. -/
import Derived.Test.YtacgeafjilipdaaMIdx
namespace Go.Proofs.Ytacgeafjilipdaa.P
open Go.RowKit Go.Shelf Go.Proofs.YtacgeafjilipdaaW.PrintWords Go.Proofs.YtacgeafjilipdaaW.PrintLast Go.Proofs.YtacgeafjilipdaaW.PrintMore
set_option linter.unusedVariables false
set_option linter.unusedSimpArgs false

set_option maxRecDepth 100000 in
theorem find1_any (W : World) (x : S26) (B : Nat) (pl : Int) (hc : W.cell? ⟨B, 0, none⟩ = some (.int .i64 pl)) :
    Calls Try.prog 124 #[.agg #[.int .i64 x.f0, .int .i64 x.f1], .pointer (some ⟨B, 0, none⟩)] W fun e w' => e = .returned (.bool (x.f0 == pl)) ∧ Below W.heap.size W w' := by
  have hu := Try.underlying26
  have hB : B < W.heap.size := World.block_lt_of_cell? W ⟨B, 0, none⟩ hc
  have hc2 : (W.alloc (.cells #[.int .i64 x.f0, .int .i64 x.f1] 26)).cell? ⟨B, 0, none⟩ = some (.int .i64 pl) := ((below_alloc (Below.refl _ _) _).cell (p := ⟨B, 0, none⟩) hB).trans hc
  go_enter Try.func124, Try.ntmps124
  go_wp2
  go_ret
  exact ⟨rfl, (Below.refl _ _).alloc (Nat.le_refl _) _⟩

def pairs_Find_int64.f (l0 : List S26) (a1 : Int) : Option (Int × Bool) :=
  if l0.length ≤ 9223372036854775807 then some (match l0.find? (fun x => x.f0 == a1) with | some x => (x.f1, true) | none => (0, false)) else none

set_option maxHeartbeats 2000000 in
set_option maxRecDepth 100000 in
theorem pairs_Find_int64.calls (A0 : Option Addr) (c0 : Nat) (l0 : List S26) (a1 : Int) (r1 : Int) (r2 : Bool) (w : World) (hr0 : Kd.C k26 w A0 l0.length l0) (hc0 : l0.length ≤ c0) (h : pairs_Find_int64.f l0 a1 = some (r1, r2)) :
    Calls Try.prog 36 #[.slice A0 l0.length c0, .int .i64 a1] w fun e w' => e = .returned (.tuple #[.int .i64 r1, .bool r2]) ∧ Below w.heap.size w w' := by
  have hu := Try.underlying26
  unfold pairs_Find_int64.f at h
  obtain ⟨hm, h2⟩ := of_ite_some h
  clear h
  have HI := find_idx (fun x : S26 => x.f0 == a1) l0
  have H1 := indexFunc_pairs_int64 124 #[.pointer (some ⟨w.heap.size, 0, none⟩)] (fun x => x.f0 == a1) A0 c0 l0 (w.alloc (.cells #[.int .i64 a1] 3))
    (Kd.C_below hr0 (below_alloc (Below.refl _ _) _)) hc0 hm
    (fun W x hb => find1_any W x w.heap.size a1 ((hb.cell (p := ⟨w.heap.size, 0, none⟩) (by simp)).trans (by simp)))
    (enters_of Try.func124 (by kernel_rfl) rfl)
  have HR := Aside0.mk hr0
  clear hr0
  have H := Aside0.mk h2
  clear h2
  generalize idxP (fun x : S26 => x.f0 == a1) l0 = ix at HI H1
  rcases HI with ⟨hx, hf⟩ | ⟨i, hi, hx, hf⟩
  · subst hx
    rw [hf] at H
    clear hf
    replace H1 := Aside0.mk H1
    go_enter Try.func36, Try.ntmps36
    go_wp2_with (go_at_call 123; refine H1.out.mono ?_; rintro e w' ⟨rfl, hb'⟩)
    go_ret2
    refine ⟨?_, ?_⟩
    · have h := H.out
      injection h with h1 h2
      subst h1; subst h2; rfl
    · exact below_then ((Below.refl _ _).alloc (Nat.le_refl _) _) (by simp) hb'
  · subst hx
    rw [hf] at H
    clear hf
    replace H1 := Aside0.mk H1
    have hi0 : (0 : Int) ≤ (i : Int) := by omega
    have hi1 : (i : Int) < (l0.length : Int) := by omega
    obtain ⟨ad, e1, hx0, hx1⟩ := at_T26 HR.out i (by omega) (by omega)
    cases e1
    rw [rd_nat_int64 l0 i hi, Int.toNat_natCast] at hx0 hx1
    have h := H.out
    injection h with h1 h2
    subst h1; subst h2
    clear H HR hm
    generalize l0[i] = y at hx0 hx1 ⊢
    have HX := Aside0.mk hx1
    clear hx0 hx1
    go_enter Try.func36, Try.ntmps36
    go_wp2_with (go_at_call 123; refine H1.out.mono ?_; rintro e w' ⟨rfl, hb'⟩; have hx1 := ((below_then ((Below.refl w.heap.size w).alloc (Nat.le_refl _) (.cells #[.int .i64 a1] 3)) (by simp) hb').cell (World.block_lt_of_cell? w _ HX.out)).trans HX.out)
    go_ret2
    exact ⟨rfl, below_then ((Below.refl _ _).alloc (Nat.le_refl _) _) (by simp) hb'⟩

end Go.Proofs.Ytacgeafjilipdaa.P
