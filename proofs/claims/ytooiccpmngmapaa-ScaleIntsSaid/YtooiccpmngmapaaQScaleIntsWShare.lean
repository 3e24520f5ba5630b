/- Words that the proof of ScaleInts leans on. -/
import Derived.Test.YtooiccpmngmapaaQScaleIntsWKept
namespace Go.Proofs.YtooiccpmngmapaaW.PrintWords
open Go.RowKit
def wC (P : World → Prop) (W : World) (ok : Nat → Prop) : Prop := ∀ W' : World, (∀ k, ok k → k < W.heap.size → W'.heap[k]? = W.heap[k]?) → P W'
theorem U9 {W W1 : World} {k : Nat} (h : W1.heap[k]? = W.heap[k]?) (hlt : k < W.heap.size) : k < W1.heap.size := by
 rw [Array.getElem?_eq_getElem hlt] at h
 exact (Array.getElem?_eq_some_iff.1 h).1
namespace wC
variable {P Q : World → Prop} {W W1 : World} {ok ok' : Nat → Prop}
theorem now (h : wC P W ok) : P W := h W (fun _ _ _ => rfl)
theorem mono (h : wC P W ok) (hok : ∀ k, ok k → ok' k) : wC P W ok' := fun W' hW => h W' (fun k hk hlt => hW k (hok k hk) hlt)
theorem bound (h : wC P W ok) : wC P W (fun k => ok k ∧ k < W.heap.size) := fun W' hW => h W' (fun k hk hlt => hW k ⟨hk, hlt⟩ hlt)
theorem step (h : wC P W ok) (hm : ∀ k, ok k → k < W.heap.size → W1.heap[k]? = W.heap[k]?) : wC P W1 ok := fun W' hW => h W' (fun k hk hlt => (hW k hk (U9 (hm k hk hlt) hlt)).trans (hm k hk hlt))
theorem imp (h : wC P W ok) (hi : ∀ W', P W' → Q W') : wC Q W ok := fun W' hW => hi W' (h W' hW)
theorem old (h : wC P W ok) (hb : Below W.heap.size W W1) : wC P W1 (fun k => ok k ∧ k < W.heap.size) := (h.bound).step (fun k _ hlt => hb.block k hlt)
end wC
namespace Kd
def F {α : Type} (d : Kd α) (W : World) (ok : Nat → Prop) (A : Option Addr) (n : Nat) (xs : List α) : Prop := wC (fun W => d.C W A n xs) W ok
def FK {α : Type} (d : Kd α) (W : World) (ok : Nat → Prop) (x : α) (c : List Value) : Prop := wC (fun W => d.K W x c) W ok
section
variable {α β : Type} {d : Kd α} {e base n n' cc g N : Nat} {ok ok' okp S : Nat → Prop} {w w0 w1 W W1 : World} {A A' : Option Addr} {u v v1 : Value} {xs : List α} {xs' : List β} {d' : Kd β} {x : α} {c : List Value}
theorem ZA (h : F d W ok A n xs) : d.C W A n xs := wC.now h
theorem ND (h : F d W ok A n xs) (hok : ∀ k, ok k → ok' k) : F d W ok' A n xs := wC.mono h hok
theorem Va (h : F d W ok A n xs) : F d W (fun k => ok k ∧ k < W.heap.size) A n xs := wC.bound h
theorem RX (h : F d W ok A n xs) (hm : ∀ k, ok k → k < W.heap.size → W1.heap[k]? = W.heap[k]?) : F d W1 ok A n xs := wC.step h hm
theorem EC (h : F d W ok A n xs) (hb : Below W.heap.size W W1) : F d W1 ok A n xs := RX h (fun k _ hlt => hb.block k hlt)
theorem Vb (h : F d W ok A n xs) (o : Obj) : F d (W.alloc o) ok A n xs := EC h (ak (Below.refl _ _) o)
theorem XE (h : F d W ok A n xs) : F d W.drew ok A n xs := EC h (ig (Below.refl _ _))
theorem Vd (h : F d W ok A n xs) (m : Nat) : F d (W.drewN m) ok A n xs := EC h (au (Below.refl _ _) m)
theorem ZB (h : F d W ok A n xs) {p : Addr} (hok : ∀ k, ok k → k ≠ p.block) (u : Value) : F d (W.setCell p u) ok A n xs := RX h (fun k hk _ => Below.heap_setCell W p u k (hok k hk))
theorem ZC (d : Kd α) (W : World) (ok : Nat → Prop) : F d W ok none ([] : List α).length [] := fun W' _ => RJ d W'
theorem RZ (h : F d W ok A n xs) (hbase : ∀ k, v.ownBlock = some k → W.heap.size ≤ k) (hb : Below W.heap.size W W1) : F d W1 (fun k => ok k ∧ some k ≠ v.ownBlock) A n xs :=
 ND (wC.old h hb) (fun k hk => ⟨hk.1, fun he => by have := hbase k he.symm; have := hk.2; omega⟩)
theorem Si (h : F d W ok A n xs) (a : Nat) (ha : W.heap.size ≤ a) : F d W (fun k => ok k ∧ k ≠ a) A n xs := ND (Va h) (fun k hk => ⟨hk.1, by have := hk.2; omega⟩)
theorem C_F (hd : Heap d) (h : d.C w A n xs) : F d w (fun k => k < w.heap.size) A n xs := fun _ hW => hd.C (fun k hlt => hW k hlt hlt) h
theorem R_F (h : d.R e W base ok (.slice A n cc) xs) : F d W ok A n xs := fun W' hW => by
 have h2 := bD (Jm h hW)
 rw [h2.1]
 exact h2.2.2
theorem Ve (h : d.M W base ok x c) : FK d W ok x c := fun _ hW => d.K_of_M (RI h hW)
end
end Kd
end Go.Proofs.YtooiccpmngmapaaW.PrintWords