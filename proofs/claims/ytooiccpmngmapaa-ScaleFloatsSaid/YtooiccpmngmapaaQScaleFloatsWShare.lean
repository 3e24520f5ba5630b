/- Words that the proof of ScaleFloats leans on. -/
import Derived.Test.YtooiccpmngmapaaQScaleFloatsWKept
namespace Go.Proofs.YtooiccpmngmapaaW.PrintWords
open Go.RowKit
def vW (P : World → Prop) (W : World) (ok : Nat → Prop) : Prop := ∀ W' : World, (∀ k, ok k → k < W.heap.size → W'.heap[k]? = W.heap[k]?) → P W'
theorem Uc {W W1 : World} {k : Nat} (h : W1.heap[k]? = W.heap[k]?) (hlt : k < W.heap.size) : k < W1.heap.size := by
 rw [Array.getElem?_eq_getElem hlt] at h
 exact (Array.getElem?_eq_some_iff.1 h).1
namespace vW
variable {P Q : World → Prop} {W W1 : World} {ok ok' : Nat → Prop}
theorem now (h : vW P W ok) : P W := h W (fun _ _ _ => rfl)
theorem mono (h : vW P W ok) (hok : ∀ k, ok k → ok' k) : vW P W ok' := fun W' hW => h W' (fun k hk hlt => hW k (hok k hk) hlt)
theorem bound (h : vW P W ok) : vW P W (fun k => ok k ∧ k < W.heap.size) := fun W' hW => h W' (fun k hk hlt => hW k ⟨hk, hlt⟩ hlt)
theorem step (h : vW P W ok) (hm : ∀ k, ok k → k < W.heap.size → W1.heap[k]? = W.heap[k]?) : vW P W1 ok := fun W' hW => h W' (fun k hk hlt => (hW k hk (Uc (hm k hk hlt) hlt)).trans (hm k hk hlt))
theorem imp (h : vW P W ok) (hi : ∀ W', P W' → Q W') : vW Q W ok := fun W' hW => hi W' (h W' hW)
theorem old (h : vW P W ok) (hb : Below W.heap.size W W1) : vW P W1 (fun k => ok k ∧ k < W.heap.size) := (h.bound).step (fun k _ hlt => hb.block k hlt)
end vW
namespace Kd
def F {α : Type} (d : Kd α) (W : World) (ok : Nat → Prop) (A : Option Addr) (n : Nat) (xs : List α) : Prop := vW (fun W => d.C W A n xs) W ok
def FK {α : Type} (d : Kd α) (W : World) (ok : Nat → Prop) (x : α) (c : List Value) : Prop := vW (fun W => d.K W x c) W ok
section
variable {α β : Type} {d : Kd α} {e base n n' cc g N : Nat} {ok ok' okp S : Nat → Prop} {w w0 w1 W W1 : World} {A A' : Option Addr} {u v v1 : Value} {xs : List α} {xs' : List β} {d' : Kd β} {x : α} {c : List Value}
theorem MS (h : F d W ok A n xs) (hok : ∀ k, ok k → ok' k) : F d W ok' A n xs := vW.mono h hok
theorem Ud (h : F d W ok A n xs) : F d W (fun k => ok k ∧ k < W.heap.size) A n xs := vW.bound h
theorem QA (h : F d W ok A n xs) (hm : ∀ k, ok k → k < W.heap.size → W1.heap[k]? = W.heap[k]?) : F d W1 ok A n xs := vW.step h hm
theorem DU (h : F d W ok A n xs) (hb : Below W.heap.size W W1) : F d W1 ok A n xs := QA h (fun k _ hlt => hb.block k hlt)
theorem Ue (h : F d W ok A n xs) (o : Obj) : F d (W.alloc o) ok A n xs := DU h (ak (Below.refl _ _) o)
theorem Wu (h : F d W ok A n xs) : F d W.drew ok A n xs := DU h (gV (Below.refl _ _))
theorem Uf (h : F d W ok A n xs) (m : Nat) : F d (W.drewN m) ok A n xs := DU h (ay (Below.refl _ _) m)
theorem YG (h : F d W ok A n xs) {p : Addr} (hok : ∀ k, ok k → k ≠ p.block) (u : Value) : F d (W.setCell p u) ok A n xs := QA h (fun k hk _ => Below.heap_setCell W p u k (hok k hk))
theorem YH (d : Kd α) (W : World) (ok : Nat → Prop) : F d W ok none ([] : List α).length [] := fun W' _ => Qu d W'
theorem QB (h : F d W ok A n xs) (hbase : ∀ k, v.ownBlock = some k → W.heap.size ≤ k) (hb : Below W.heap.size W W1) : F d W1 (fun k => ok k ∧ some k ≠ v.ownBlock) A n xs :=
 MS (vW.old h hb) (fun k hk => ⟨hk.1, fun he => by have := hbase k he.symm; have := hk.2; omega⟩)
theorem QC (h : F d W ok A n xs) (a : Nat) (ha : W.heap.size ≤ a) : F d W (fun k => ok k ∧ k ≠ a) A n xs := MS (Ud h) (fun k hk => ⟨hk.1, by have := hk.2; omega⟩)
theorem C_F (hd : Heap d) (h : d.C w A n xs) : F d w (fun k => k < w.heap.size) A n xs := fun _ hW => hd.C (fun k hlt => hW k hlt hlt) h
theorem Ug (h : d.M W base ok x c) : FK d W ok x c := fun _ hW => d.K_of_M (Qs h hW)
end
end Kd
end Go.Proofs.YtooiccpmngmapaaW.PrintWords