/- A PART OF THE PROOF, JOINED OUT OF 2 TEXTS. -/
import Derived.Test.YthkkdepppjiaeaaGreatDoorQjRef
/- The reference of layer 11: vectors as they lie in memory; To, Plus, Minus, Times, Inner, Outer. -/
namespace Go.Proofs.YthkkdepppjiaeaaGreatDoor
open Go.RowKit Go.Shelf Go.Sort

attribute [local go_sem] Oper.semAt_some

/-- A row begins with a bool. -/
def RB (w : World) (g : Nat) : Prop := ∃ x, w.cell? ⟨g, 0, none⟩ = some (.bool x)
theorem RB.set0 {w : World} {g : Nat} (h : RB w g) (b : Bool) : RB (w.setCell ⟨g, 0, none⟩ (.bool b)) g := by
  obtain ⟨x, h⟩ := h
  exact ⟨b, World.cell?_setCell_same w ⟨g, 0, none⟩ _ h⟩
theorem RB.setI {w : World} {g : Nat} (h : RB w g) (i : Nat) (v : Value) (hi : i ≠ 0) : RB (w.setCell ⟨g, i, none⟩ v) g := by
  obtain ⟨x, h⟩ := h
  refine ⟨x, ?_⟩
  rw [World.cell?_setCell_other w ⟨g, i, none⟩ ⟨g, 0, none⟩ v (by intro e; injection e with _ e2; exact hi e2)]; exact h
theorem RQ.set {w : World} {p d : Sl} {x : Rat} {g : Nat} (h : RQ w p d x) (hb : RB w g) (i : Nat) (v : Value) : RQ (w.setCell ⟨g, i, none⟩ v) p d x := by
  obtain ⟨b, hb⟩ := hb
  exact ⟨h.num.set hb, h.den.set hb⟩

/-- The slices of a fraction, of a vector of fractions. -/
structure QS where
  p : Sl
  d : Sl
structure VS where
  x : QS
  y : QS
  z : QS
@[reducible] def vW (b0 b1 b2 : Bool) (s : VS) : Value := .agg #[.bool b0, .slice s.x.p.A s.x.p.n s.x.p.c, .slice s.x.d.A s.x.d.n s.x.d.c, .bool b1, .slice s.y.p.A s.y.p.n s.y.p.c, .slice s.y.d.A s.y.d.n s.y.d.c, .bool b2, .slice s.z.p.A s.z.p.n s.z.p.c, .slice s.z.d.A s.z.d.n s.z.d.c]
structure RV (w : World) (s : VS) (a : V3) : Prop where
  x : RQ w s.x.p s.x.d a.x
  y : RQ w s.y.p s.y.d a.y
  z : RQ w s.z.p s.z.d a.z
theorem RV.below {w w' : World} {s : VS} {a : V3} (h : RV w s a) (hb : Below w.heap.size w w') : RV w' s a := ⟨h.x.below hb, h.y.below hb, h.z.below hb⟩
theorem RV.set {w : World} {s : VS} {a : V3} {g : Nat} (h : RV w s a) (hb : RB w g) (i : Nat) (v : Value) : RV (w.setCell ⟨g, i, none⟩ v) s a := ⟨h.x.set hb i v, h.y.set hb i v, h.z.set hb i v⟩
theorem RV.drewR {w : World} {s : VS} {a : V3} (h : RV w s a) : RV w.drew s a := ⟨⟨h.x.num, h.x.den⟩, ⟨h.y.num, h.y.den⟩, ⟨h.z.num, h.z.den⟩⟩
theorem rowc9 {W : World} {g : Nat} {v0 v1 v2 v3 v4 v5 v6 v7 v8 : Value} {t : TypeId} (h : W.heap[g]? = some (.cells #[v0, v1, v2, v3, v4, v5, v6, v7, v8] t (0, 0))) : W.cell? ⟨g, 0, none⟩ = some v0 ∧ W.cell? ⟨g, 1, none⟩ = some v1 ∧ W.cell? ⟨g, 2, none⟩ = some v2 ∧ W.cell? ⟨g, 3, none⟩ = some v3 ∧ W.cell? ⟨g, 4, none⟩ = some v4 ∧ W.cell? ⟨g, 5, none⟩ = some v5 ∧ W.cell? ⟨g, 6, none⟩ = some v6 ∧ W.cell? ⟨g, 7, none⟩ = some v7 ∧ W.cell? ⟨g, 8, none⟩ = some v8 :=
  ⟨cell_of_row W _ 0 _ _ _ h, cell_of_row W _ 1 _ _ _ h, cell_of_row W _ 2 _ _ _ h, cell_of_row W _ 3 _ _ _ h, cell_of_row W _ 4 _ _ _ h, cell_of_row W _ 5 _ _ _ h, cell_of_row W _ 6 _ _ _ h, cell_of_row W _ 7 _ _ _ h, cell_of_row W _ 8 _ _ _ h⟩
theorem row9 {W : World} {g : Nat} {v0 v1 v2 v3 v4 v5 v6 v7 v8 : Value} {t : TypeId} (h : W.heap[g]? = some (.cells #[v0, v1, v2, v3, v4, v5, v6, v7, v8] t (0, 0))) : W.cell? ⟨g, 0, none⟩ = some v0 ∧ W.cell? ⟨g, 1, none⟩ = some v1 ∧ W.cell? ⟨g, 2, none⟩ = some v2 ∧ W.cell? ⟨g, 3, none⟩ = some v3 ∧ W.cell? ⟨g, 4, none⟩ = some v4 ∧ W.cell? ⟨g, 5, none⟩ = some v5 ∧ W.cell? ⟨g, 6, none⟩ = some v6 ∧ W.cell? ⟨g, 7, none⟩ = some v7 ∧ W.cell? ⟨g, 8, none⟩ = some v8 ∧ W.frozen? ⟨g, 0, none⟩ = false ∧ W.frozen? ⟨g, 1, none⟩ = false ∧ W.frozen? ⟨g, 2, none⟩ = false ∧ W.frozen? ⟨g, 3, none⟩ = false ∧ W.frozen? ⟨g, 4, none⟩ = false ∧ W.frozen? ⟨g, 5, none⟩ = false ∧ W.frozen? ⟨g, 6, none⟩ = false ∧ W.frozen? ⟨g, 7, none⟩ = false ∧ W.frozen? ⟨g, 8, none⟩ = false :=
  ⟨cell_of_row W _ 0 _ _ _ h, cell_of_row W _ 1 _ _ _ h, cell_of_row W _ 2 _ _ _ h, cell_of_row W _ 3 _ _ _ h, cell_of_row W _ 4 _ _ _ h, cell_of_row W _ 5 _ _ _ h, cell_of_row W _ 6 _ _ _ h, cell_of_row W _ 7 _ _ _ h, cell_of_row W _ 8 _ _ _ h, frozen_of_row W _ 0 _ _ h, frozen_of_row W _ 1 _ _ h, frozen_of_row W _ 2 _ _ h, frozen_of_row W _ 3 _ _ h, frozen_of_row W _ 4 _ _ h, frozen_of_row W _ 5 _ _ h, frozen_of_row W _ 6 _ _ h, frozen_of_row W _ 7 _ _ h, frozen_of_row W _ 8 _ _ h⟩
set_option maxHeartbeats 1000000 in
theorem store9 {w : World} {g : Nat} {v0 v1 v2 v3 v4 v5 v6 v7 v8 : Value} {t : TypeId} (h : w.heap[g]? = some (.cells #[v0, v1, v2, v3, v4, v5, v6, v7, v8] t (0, 0))) (u0 u1 u2 u3 u4 u5 u6 u7 u8 : Value) : (((((((((w.setCell ⟨g, 0, none⟩ u0).setCell ⟨g, 1, none⟩ u1).setCell ⟨g, 2, none⟩ u2).setCell ⟨g, 3, none⟩ u3).setCell ⟨g, 4, none⟩ u4).setCell ⟨g, 5, none⟩ u5).setCell ⟨g, 6, none⟩ u6).setCell ⟨g, 7, none⟩ u7).setCell ⟨g, 8, none⟩ u8).heap[g]? = some (.cells #[u0, u1, u2, u3, u4, u5, u6, u7, u8] t (0, 0)) := by
  rw [heap_setCell_same _ g 8 _ _ u8 (heap_setCell_same _ g 7 _ _ u7 (heap_setCell_same _ g 6 _ _ u6 (heap_setCell_same _ g 5 _ _ u5 (heap_setCell_same _ g 4 _ _ u4 (heap_setCell_same _ g 3 _ _ u3 (heap_setCell_same _ g 2 _ _ u2 (heap_setCell_same _ g 1 _ _ u1 (heap_setCell_same _ g 0 _ _ u0 h))))))))]
  simp only [List.setIfInBounds_toArray, List.set_cons_zero, List.set_cons_succ]
theorem store9_below {w0 w : World} {B g : Nat} (h : Below B w0 w) (hB : B ≤ g) (u0 u1 u2 u3 u4 u5 u6 u7 u8 : Value) : Below B w0 (((((((((w.setCell ⟨g, 0, none⟩ u0).setCell ⟨g, 1, none⟩ u1).setCell ⟨g, 2, none⟩ u2).setCell ⟨g, 3, none⟩ u3).setCell ⟨g, 4, none⟩ u4).setCell ⟨g, 5, none⟩ u5).setCell ⟨g, 6, none⟩ u6).setCell ⟨g, 7, none⟩ u7).setCell ⟨g, 8, none⟩ u8) :=
  ((((((((h.setCell (p := ⟨g, 0, none⟩) hB _).setCell (p := ⟨g, 1, none⟩) hB _).setCell (p := ⟨g, 2, none⟩) hB _).setCell (p := ⟨g, 3, none⟩) hB _).setCell (p := ⟨g, 4, none⟩) hB _).setCell (p := ⟨g, 5, none⟩) hB _).setCell (p := ⟨g, 6, none⟩) hB _).setCell (p := ⟨g, 7, none⟩) hB _).setCell (p := ⟨g, 8, none⟩) hB _
theorem store9_other {w : World} {g k : Nat} {o : Obj} (hne : k ≠ g) (h : w.heap[k]? = some o) (u0 u1 u2 u3 u4 u5 u6 u7 u8 : Value) : (((((((((w.setCell ⟨g, 0, none⟩ u0).setCell ⟨g, 1, none⟩ u1).setCell ⟨g, 2, none⟩ u2).setCell ⟨g, 3, none⟩ u3).setCell ⟨g, 4, none⟩ u4).setCell ⟨g, 5, none⟩ u5).setCell ⟨g, 6, none⟩ u6).setCell ⟨g, 7, none⟩ u7).setCell ⟨g, 8, none⟩ u8).heap[k]? = some o := by
  rw [heap_setCell_other _ ⟨g, 8, none⟩ _ _ hne, heap_setCell_other _ ⟨g, 7, none⟩ _ _ hne, heap_setCell_other _ ⟨g, 6, none⟩ _ _ hne, heap_setCell_other _ ⟨g, 5, none⟩ _ _ hne, heap_setCell_other _ ⟨g, 4, none⟩ _ _ hne, heap_setCell_other _ ⟨g, 3, none⟩ _ _ hne, heap_setCell_other _ ⟨g, 2, none⟩ _ _ hne, heap_setCell_other _ ⟨g, 1, none⟩ _ _ hne, heap_setCell_other _ ⟨g, 0, none⟩ _ _ hne]; exact h
theorem RV.store9 {w : World} {s : VS} {a : V3} {g : Nat} {b1 b0 : Bool} {v1 v2 v3 v4 v5 v6 v7 v8 u1 u2 u3 u4 u5 u6 u7 u8 : Value} {t : TypeId} (h : RV w s a) (hr : w.heap[g]? = some (.cells #[.bool b1, v1, v2, v3, v4, v5, v6, v7, v8] t (0, 0))) : RV (((((((((w.setCell ⟨g, 0, none⟩ (.bool b0)).setCell ⟨g, 1, none⟩ u1).setCell ⟨g, 2, none⟩ u2).setCell ⟨g, 3, none⟩ u3).setCell ⟨g, 4, none⟩ u4).setCell ⟨g, 5, none⟩ u5).setCell ⟨g, 6, none⟩ u6).setCell ⟨g, 7, none⟩ u7).setCell ⟨g, 8, none⟩ u8) s a := by
  have hb : RB w g := ⟨b1, cell_of_row w _ 0 _ _ _ hr⟩
  exact RV.set (RV.set (RV.set (RV.set (RV.set (RV.set (RV.set (RV.set (RV.set h hb 0 (.bool b0)) (hb.set0 b0) 1 u1) (RB.setI (hb.set0 b0) 1 u1 (by decide)) 2 u2) (RB.setI (RB.setI (hb.set0 b0) 1 u1 (by decide)) 2 u2 (by decide)) 3 u3) (RB.setI (RB.setI (RB.setI (hb.set0 b0) 1 u1 (by decide)) 2 u2 (by decide)) 3 u3 (by decide)) 4 u4) (RB.setI (RB.setI (RB.setI (RB.setI (hb.set0 b0) 1 u1 (by decide)) 2 u2 (by decide)) 3 u3 (by decide)) 4 u4 (by decide)) 5 u5) (RB.setI (RB.setI (RB.setI (RB.setI (RB.setI (hb.set0 b0) 1 u1 (by decide)) 2 u2 (by decide)) 3 u3 (by decide)) 4 u4 (by decide)) 5 u5 (by decide)) 6 u6) (RB.setI (RB.setI (RB.setI (RB.setI (RB.setI (RB.setI (hb.set0 b0) 1 u1 (by decide)) 2 u2 (by decide)) 3 u3 (by decide)) 4 u4 (by decide)) 5 u5 (by decide)) 6 u6 (by decide)) 7 u7) (RB.setI (RB.setI (RB.setI (RB.setI (RB.setI (RB.setI (RB.setI (hb.set0 b0) 1 u1 (by decide)) 2 u2 (by decide)) 3 u3 (by decide)) 4 u4 (by decide)) 5 u5 (by decide)) 6 u6 (by decide)) 7 u7 (by decide)) 8 u8
theorem RQ.store9 {w : World} {p d : Sl} {x : Rat} {g : Nat} {b1 b0 : Bool} {v1 v2 v3 v4 v5 v6 v7 v8 u1 u2 u3 u4 u5 u6 u7 u8 : Value} {t : TypeId} (h : RQ w p d x) (hr : w.heap[g]? = some (.cells #[.bool b1, v1, v2, v3, v4, v5, v6, v7, v8] t (0, 0))) : RQ (((((((((w.setCell ⟨g, 0, none⟩ (.bool b0)).setCell ⟨g, 1, none⟩ u1).setCell ⟨g, 2, none⟩ u2).setCell ⟨g, 3, none⟩ u3).setCell ⟨g, 4, none⟩ u4).setCell ⟨g, 5, none⟩ u5).setCell ⟨g, 6, none⟩ u6).setCell ⟨g, 7, none⟩ u7).setCell ⟨g, 8, none⟩ u8) p d x := by
  have hb : RB w g := ⟨b1, cell_of_row w _ 0 _ _ _ hr⟩
  exact RQ.set (RQ.set (RQ.set (RQ.set (RQ.set (RQ.set (RQ.set (RQ.set (RQ.set h hb 0 (.bool b0)) (hb.set0 b0) 1 u1) (RB.setI (hb.set0 b0) 1 u1 (by decide)) 2 u2) (RB.setI (RB.setI (hb.set0 b0) 1 u1 (by decide)) 2 u2 (by decide)) 3 u3) (RB.setI (RB.setI (RB.setI (hb.set0 b0) 1 u1 (by decide)) 2 u2 (by decide)) 3 u3 (by decide)) 4 u4) (RB.setI (RB.setI (RB.setI (RB.setI (hb.set0 b0) 1 u1 (by decide)) 2 u2 (by decide)) 3 u3 (by decide)) 4 u4 (by decide)) 5 u5) (RB.setI (RB.setI (RB.setI (RB.setI (RB.setI (hb.set0 b0) 1 u1 (by decide)) 2 u2 (by decide)) 3 u3 (by decide)) 4 u4 (by decide)) 5 u5 (by decide)) 6 u6) (RB.setI (RB.setI (RB.setI (RB.setI (RB.setI (RB.setI (hb.set0 b0) 1 u1 (by decide)) 2 u2 (by decide)) 3 u3 (by decide)) 4 u4 (by decide)) 5 u5 (by decide)) 6 u6 (by decide)) 7 u7) (RB.setI (RB.setI (RB.setI (RB.setI (RB.setI (RB.setI (RB.setI (hb.set0 b0) 1 u1 (by decide)) 2 u2 (by decide)) 3 u3 (by decide)) 4 u4 (by decide)) 5 u5 (by decide)) 6 u6 (by decide)) 7 u7 (by decide)) 8 u8

end Go.Proofs.YthkkdepppjiaeaaGreatDoor

/- The reference of layer 11: Times, Inner, Outer, Triple. -/
namespace Go.Proofs.YthkkdepppjiaeaaGreatDoor
open Go.RowKit Go.Shelf Go.Sort

attribute [local go_sem] Oper.semAt_some

end Go.Proofs.YthkkdepppjiaeaaGreatDoor
