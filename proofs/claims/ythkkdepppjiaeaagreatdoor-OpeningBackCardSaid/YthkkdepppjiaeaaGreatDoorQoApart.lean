/- Worlds that agree with an earlier one on all its blocks but two: what a region keeps while it draws its order. -/
import Derived.Test.YthkkdepppjiaeaaGreatDoorPhInteger
namespace Go.Proofs.YthkkdepppjiaeaaGreatDoor
open Go.RowKit Go.Shelf Go.Sort

/-- Of V's blocks none has turned but perhaps the blocks g and h. -/
structure Ap (g h : Nat) (V w : World) : Prop where
  size : V.heap.size ≤ w.heap.size
  block : ∀ k, k < V.heap.size → k ≠ g → k ≠ h → w.heap[k]? = V.heap[k]?
theorem Ap.refl (g h : Nat) (V : World) : Ap g h V V := ⟨Nat.le_refl _, fun _ _ _ _ => rfl⟩
theorem Ap.of_below {g h : Nat} {V w : World} (hb : Below V.heap.size V w) : Ap g h V w := ⟨hb.size, fun k hk _ _ => hb.block k hk⟩
theorem Ap.drew {g h : Nat} {V w : World} (ha : Ap g h V w) : Ap g h V w.drew := ⟨ha.size, ha.block⟩
theorem Ap.alloc {g h : Nat} {V w : World} {o : Obj} (ha : Ap g h V w) : Ap g h V (w.alloc o) :=
  ⟨by have := ha.size; rw [World.size_alloc]; omega, fun k hk h1 h2 => (Below.heap_alloc w o k (by have := ha.size; omega)).trans (ha.block k hk h1 h2)⟩
theorem Ap.setN {g h b i : Nat} {V w : World} {x : Value} (hb : V.heap.size ≤ b) (ha : Ap g h V w) : Ap g h V (w.setCell ⟨b, i, none⟩ x) :=
  ⟨by have := ha.size; simpa [World.setCell] using this, fun k hk h1 h2 => (Below.heap_setCell w ⟨b, i, none⟩ x k (by show k ≠ b; omega)).trans (ha.block k hk h1 h2)⟩
theorem Ap.set1 {g h i : Nat} {V w : World} {x : Value} (ha : Ap g h V w) : Ap g h V (w.setCell ⟨g, i, none⟩ x) :=
  ⟨by have := ha.size; simpa [World.setCell] using this, fun k hk h1 h2 => (Below.heap_setCell w ⟨g, i, none⟩ x k h1).trans (ha.block k hk h1 h2)⟩
theorem Ap.set2 {g h i : Nat} {V w : World} {x : Value} (ha : Ap g h V w) : Ap g h V (w.setCell ⟨h, i, none⟩ x) :=
  ⟨by have := ha.size; simpa [World.setCell] using this, fun k hk h1 h2 => (Below.heap_setCell w ⟨h, i, none⟩ x k h2).trans (ha.block k hk h1 h2)⟩
theorem Ap.row {g h k : Nat} {V w : World} {o : Obj} (ha : Ap g h V w) (hr : V.heap[k]? = some o) (h1 : k ≠ g) (h2 : k ≠ h) : w.heap[k]? = some o := (ha.block k (lt_of_row hr) h1 h2).trans hr
theorem Ap.rowV {k : Nat} {V w : World} {o : Obj} (ha : Ap V.heap.size V.heap.size V w) (hr : V.heap[k]? = some o) : w.heap[k]? = some o := ha.row hr (by have := lt_of_row hr; omega) (by have := lt_of_row hr; omega)
/-- Blocks that were laid ahead of a call. -/
theorem one_new {Y wq : World} {o : Obj} (hb : Below (Y.alloc o).heap.size (Y.alloc o) wq) : wq.heap[Y.heap.size]? = some o := keep hb (heap_alloc_new _ _)
theorem two_new {Y wq : World} {o o' : Obj} (hb : Below ((Y.alloc o).alloc o').heap.size ((Y.alloc o).alloc o') wq) : wq.heap[Y.heap.size]? = some o ∧ wq.heap[Y.heap.size + 1]? = some o' := by
  obtain ⟨_, _, h1, h2⟩ := A2 (w := Y) (a := o) (b := o') rfl
  exact ⟨keep hb h1, keep hb h2⟩
theorem one_newD {Y wq : World} {o : Obj} (hb : Below (Y.alloc o).drew.heap.size (Y.alloc o).drew wq) : wq.heap[Y.heap.size]? = some o := keep hb (heap_alloc_new Y o)
theorem two_newD {Y wq : World} {o o' : Obj} (hb : Below ((Y.alloc o).alloc o').drew.heap.size ((Y.alloc o).alloc o').drew wq) : wq.heap[Y.heap.size]? = some o ∧ wq.heap[Y.heap.size + 1]? = some o' := by
  obtain ⟨_, _, h1, h2⟩ := A2 (w := Y) (a := o) (b := o') rfl
  exact ⟨keep hb h1, keep hb h2⟩
theorem two_row {Y : World} {o o' : Obj} : ((Y.alloc o).alloc o').heap[Y.heap.size]? = some o := (A2 (w := Y) (a := o) (b := o') rfl).2.2.1
theorem two_row' {Y : World} {o o' : Obj} : ((Y.alloc o).alloc o').heap[Y.heap.size + 1]? = some o' := (A2 (w := Y) (a := o) (b := o') rfl).2.2.2
end Go.Proofs.YthkkdepppjiaeaaGreatDoor
