/- The reference of layer 11: Zero, ReadPlane, Height, Side. -/
import Derived.Test.YtgbabmkclojgeaaGreatDoorQpPlanes
import Derived.Test.YtgbabmkclojgeaaGreatDoorQmRef
import Derived.BigRegion
namespace Go.Proofs.YtgbabmkclojgeaaGreatDoor
open Go.RowKit Go.Shelf Go.Sort

attribute [local go_sem] Oper.semAt_some

theorem rowc12 {W : World} {g : Nat} {v0 v1 v2 v3 v4 v5 v6 v7 v8 v9 v10 v11 : Value} {t : TypeId} (h : W.heap[g]? = some (.cells #[v0, v1, v2, v3, v4, v5, v6, v7, v8, v9, v10, v11] t (0, 0))) : W.cell? ⟨g, 0, none⟩ = some v0 ∧ W.cell? ⟨g, 1, none⟩ = some v1 ∧ W.cell? ⟨g, 2, none⟩ = some v2 ∧ W.cell? ⟨g, 3, none⟩ = some v3 ∧ W.cell? ⟨g, 4, none⟩ = some v4 ∧ W.cell? ⟨g, 5, none⟩ = some v5 ∧ W.cell? ⟨g, 6, none⟩ = some v6 ∧ W.cell? ⟨g, 7, none⟩ = some v7 ∧ W.cell? ⟨g, 8, none⟩ = some v8 ∧ W.cell? ⟨g, 9, none⟩ = some v9 ∧ W.cell? ⟨g, 10, none⟩ = some v10 ∧ W.cell? ⟨g, 11, none⟩ = some v11 :=
  ⟨cell_of_row W _ 0 _ _ _ h, cell_of_row W _ 1 _ _ _ h, cell_of_row W _ 2 _ _ _ h, cell_of_row W _ 3 _ _ _ h, cell_of_row W _ 4 _ _ _ h, cell_of_row W _ 5 _ _ _ h, cell_of_row W _ 6 _ _ _ h, cell_of_row W _ 7 _ _ _ h, cell_of_row W _ 8 _ _ _ h, cell_of_row W _ 9 _ _ _ h, cell_of_row W _ 10 _ _ _ h, cell_of_row W _ 11 _ _ _ h⟩
theorem row12 {W : World} {g : Nat} {v0 v1 v2 v3 v4 v5 v6 v7 v8 v9 v10 v11 : Value} {t : TypeId} (h : W.heap[g]? = some (.cells #[v0, v1, v2, v3, v4, v5, v6, v7, v8, v9, v10, v11] t (0, 0))) : W.cell? ⟨g, 0, none⟩ = some v0 ∧ W.cell? ⟨g, 1, none⟩ = some v1 ∧ W.cell? ⟨g, 2, none⟩ = some v2 ∧ W.cell? ⟨g, 3, none⟩ = some v3 ∧ W.cell? ⟨g, 4, none⟩ = some v4 ∧ W.cell? ⟨g, 5, none⟩ = some v5 ∧ W.cell? ⟨g, 6, none⟩ = some v6 ∧ W.cell? ⟨g, 7, none⟩ = some v7 ∧ W.cell? ⟨g, 8, none⟩ = some v8 ∧ W.cell? ⟨g, 9, none⟩ = some v9 ∧ W.cell? ⟨g, 10, none⟩ = some v10 ∧ W.cell? ⟨g, 11, none⟩ = some v11 ∧ W.frozen? ⟨g, 0, none⟩ = false ∧ W.frozen? ⟨g, 1, none⟩ = false ∧ W.frozen? ⟨g, 2, none⟩ = false ∧ W.frozen? ⟨g, 3, none⟩ = false ∧ W.frozen? ⟨g, 4, none⟩ = false ∧ W.frozen? ⟨g, 5, none⟩ = false ∧ W.frozen? ⟨g, 6, none⟩ = false ∧ W.frozen? ⟨g, 7, none⟩ = false ∧ W.frozen? ⟨g, 8, none⟩ = false ∧ W.frozen? ⟨g, 9, none⟩ = false ∧ W.frozen? ⟨g, 10, none⟩ = false ∧ W.frozen? ⟨g, 11, none⟩ = false :=
  ⟨cell_of_row W _ 0 _ _ _ h, cell_of_row W _ 1 _ _ _ h, cell_of_row W _ 2 _ _ _ h, cell_of_row W _ 3 _ _ _ h, cell_of_row W _ 4 _ _ _ h, cell_of_row W _ 5 _ _ _ h, cell_of_row W _ 6 _ _ _ h, cell_of_row W _ 7 _ _ _ h, cell_of_row W _ 8 _ _ _ h, cell_of_row W _ 9 _ _ _ h, cell_of_row W _ 10 _ _ _ h, cell_of_row W _ 11 _ _ _ h, frozen_of_row W _ 0 _ _ h, frozen_of_row W _ 1 _ _ h, frozen_of_row W _ 2 _ _ h, frozen_of_row W _ 3 _ _ h, frozen_of_row W _ 4 _ _ h, frozen_of_row W _ 5 _ _ h, frozen_of_row W _ 6 _ _ h, frozen_of_row W _ 7 _ _ h, frozen_of_row W _ 8 _ _ h, frozen_of_row W _ 9 _ _ h, frozen_of_row W _ 10 _ _ h, frozen_of_row W _ 11 _ _ h⟩
set_option maxHeartbeats 1000000 in
theorem store12 {w : World} {g : Nat} {v0 v1 v2 v3 v4 v5 v6 v7 v8 v9 v10 v11 : Value} {t : TypeId} (h : w.heap[g]? = some (.cells #[v0, v1, v2, v3, v4, v5, v6, v7, v8, v9, v10, v11] t (0, 0))) (u0 u1 u2 u3 u4 u5 u6 u7 u8 u9 u10 u11 : Value) : ((((((((((((w.setCell ⟨g, 0, none⟩ u0).setCell ⟨g, 1, none⟩ u1).setCell ⟨g, 2, none⟩ u2).setCell ⟨g, 3, none⟩ u3).setCell ⟨g, 4, none⟩ u4).setCell ⟨g, 5, none⟩ u5).setCell ⟨g, 6, none⟩ u6).setCell ⟨g, 7, none⟩ u7).setCell ⟨g, 8, none⟩ u8).setCell ⟨g, 9, none⟩ u9).setCell ⟨g, 10, none⟩ u10).setCell ⟨g, 11, none⟩ u11).heap[g]? = some (.cells #[u0, u1, u2, u3, u4, u5, u6, u7, u8, u9, u10, u11] t (0, 0)) := by
  rw [heap_setCell_same _ g 11 _ _ u11 (heap_setCell_same _ g 10 _ _ u10 (heap_setCell_same _ g 9 _ _ u9 (heap_setCell_same _ g 8 _ _ u8 (heap_setCell_same _ g 7 _ _ u7 (heap_setCell_same _ g 6 _ _ u6 (heap_setCell_same _ g 5 _ _ u5 (heap_setCell_same _ g 4 _ _ u4 (heap_setCell_same _ g 3 _ _ u3 (heap_setCell_same _ g 2 _ _ u2 (heap_setCell_same _ g 1 _ _ u1 (heap_setCell_same _ g 0 _ _ u0 h)))))))))))]
  simp only [List.setIfInBounds_toArray, List.set_cons_zero, List.set_cons_succ]
theorem store12_below {w0 w : World} {B g : Nat} (h : Below B w0 w) (hB : B ≤ g) (u0 u1 u2 u3 u4 u5 u6 u7 u8 u9 u10 u11 : Value) : Below B w0 ((((((((((((w.setCell ⟨g, 0, none⟩ u0).setCell ⟨g, 1, none⟩ u1).setCell ⟨g, 2, none⟩ u2).setCell ⟨g, 3, none⟩ u3).setCell ⟨g, 4, none⟩ u4).setCell ⟨g, 5, none⟩ u5).setCell ⟨g, 6, none⟩ u6).setCell ⟨g, 7, none⟩ u7).setCell ⟨g, 8, none⟩ u8).setCell ⟨g, 9, none⟩ u9).setCell ⟨g, 10, none⟩ u10).setCell ⟨g, 11, none⟩ u11) :=
  (((((((((((h.setCell (p := ⟨g, 0, none⟩) hB _).setCell (p := ⟨g, 1, none⟩) hB _).setCell (p := ⟨g, 2, none⟩) hB _).setCell (p := ⟨g, 3, none⟩) hB _).setCell (p := ⟨g, 4, none⟩) hB _).setCell (p := ⟨g, 5, none⟩) hB _).setCell (p := ⟨g, 6, none⟩) hB _).setCell (p := ⟨g, 7, none⟩) hB _).setCell (p := ⟨g, 8, none⟩) hB _).setCell (p := ⟨g, 9, none⟩) hB _).setCell (p := ⟨g, 10, none⟩) hB _).setCell (p := ⟨g, 11, none⟩) hB _
theorem cS12 {w : World} {g b i : Nat} {u0 u1 u2 u3 u4 u5 u6 u7 u8 u9 u10 u11 v : Value} (hne : b ≠ g) (h : w.cell? ⟨b, i, none⟩ = some v) : ((((((((((((w.setCell ⟨g, 0, none⟩ u0).setCell ⟨g, 1, none⟩ u1).setCell ⟨g, 2, none⟩ u2).setCell ⟨g, 3, none⟩ u3).setCell ⟨g, 4, none⟩ u4).setCell ⟨g, 5, none⟩ u5).setCell ⟨g, 6, none⟩ u6).setCell ⟨g, 7, none⟩ u7).setCell ⟨g, 8, none⟩ u8).setCell ⟨g, 9, none⟩ u9).setCell ⟨g, 10, none⟩ u10).setCell ⟨g, 11, none⟩ u11).cell? ⟨b, i, none⟩ = some v :=
  cS1 hne (cS1 hne (cS1 hne (cS1 hne (cS1 hne (cS1 hne (cS1 hne (cS1 hne (cS1 hne (cS1 hne (cS1 hne (cS1 hne h)))))))))))
theorem store12_other {w : World} {g k : Nat} {o : Obj} (hne : k ≠ g) (h : w.heap[k]? = some o) (u0 u1 u2 u3 u4 u5 u6 u7 u8 u9 u10 u11 : Value) : ((((((((((((w.setCell ⟨g, 0, none⟩ u0).setCell ⟨g, 1, none⟩ u1).setCell ⟨g, 2, none⟩ u2).setCell ⟨g, 3, none⟩ u3).setCell ⟨g, 4, none⟩ u4).setCell ⟨g, 5, none⟩ u5).setCell ⟨g, 6, none⟩ u6).setCell ⟨g, 7, none⟩ u7).setCell ⟨g, 8, none⟩ u8).setCell ⟨g, 9, none⟩ u9).setCell ⟨g, 10, none⟩ u10).setCell ⟨g, 11, none⟩ u11).heap[k]? = some o := by
  rw [heap_setCell_other _ ⟨g, 11, none⟩ _ _ hne, heap_setCell_other _ ⟨g, 10, none⟩ _ _ hne, heap_setCell_other _ ⟨g, 9, none⟩ _ _ hne, heap_setCell_other _ ⟨g, 8, none⟩ _ _ hne, heap_setCell_other _ ⟨g, 7, none⟩ _ _ hne, heap_setCell_other _ ⟨g, 6, none⟩ _ _ hne, heap_setCell_other _ ⟨g, 5, none⟩ _ _ hne, heap_setCell_other _ ⟨g, 4, none⟩ _ _ hne, heap_setCell_other _ ⟨g, 3, none⟩ _ _ hne, heap_setCell_other _ ⟨g, 2, none⟩ _ _ hne, heap_setCell_other _ ⟨g, 1, none⟩ _ _ hne, heap_setCell_other _ ⟨g, 0, none⟩ _ _ hne]; exact h
theorem RV.store12 {w : World} {s : VS} {a : V3} {g : Nat} {b1 b0 : Bool} {v1 v2 v3 v4 v5 v6 v7 v8 v9 v10 v11 u1 u2 u3 u4 u5 u6 u7 u8 u9 u10 u11 : Value} {t : TypeId} (h : RV w s a) (hr : w.heap[g]? = some (.cells #[.bool b1, v1, v2, v3, v4, v5, v6, v7, v8, v9, v10, v11] t (0, 0))) : RV ((((((((((((w.setCell ⟨g, 0, none⟩ (.bool b0)).setCell ⟨g, 1, none⟩ u1).setCell ⟨g, 2, none⟩ u2).setCell ⟨g, 3, none⟩ u3).setCell ⟨g, 4, none⟩ u4).setCell ⟨g, 5, none⟩ u5).setCell ⟨g, 6, none⟩ u6).setCell ⟨g, 7, none⟩ u7).setCell ⟨g, 8, none⟩ u8).setCell ⟨g, 9, none⟩ u9).setCell ⟨g, 10, none⟩ u10).setCell ⟨g, 11, none⟩ u11) s a := by
  have hb : RB w g := ⟨b1, cell_of_row w _ 0 _ _ _ hr⟩
  exact RV.set (RV.set (RV.set (RV.set (RV.set (RV.set (RV.set (RV.set (RV.set (RV.set (RV.set (RV.set h hb 0 (.bool b0)) (hb.set0 b0) 1 u1) (RB.setI (hb.set0 b0) 1 u1 (by decide)) 2 u2) (RB.setI (RB.setI (hb.set0 b0) 1 u1 (by decide)) 2 u2 (by decide)) 3 u3) (RB.setI (RB.setI (RB.setI (hb.set0 b0) 1 u1 (by decide)) 2 u2 (by decide)) 3 u3 (by decide)) 4 u4) (RB.setI (RB.setI (RB.setI (RB.setI (hb.set0 b0) 1 u1 (by decide)) 2 u2 (by decide)) 3 u3 (by decide)) 4 u4 (by decide)) 5 u5) (RB.setI (RB.setI (RB.setI (RB.setI (RB.setI (hb.set0 b0) 1 u1 (by decide)) 2 u2 (by decide)) 3 u3 (by decide)) 4 u4 (by decide)) 5 u5 (by decide)) 6 u6) (RB.setI (RB.setI (RB.setI (RB.setI (RB.setI (RB.setI (hb.set0 b0) 1 u1 (by decide)) 2 u2 (by decide)) 3 u3 (by decide)) 4 u4 (by decide)) 5 u5 (by decide)) 6 u6 (by decide)) 7 u7) (RB.setI (RB.setI (RB.setI (RB.setI (RB.setI (RB.setI (RB.setI (hb.set0 b0) 1 u1 (by decide)) 2 u2 (by decide)) 3 u3 (by decide)) 4 u4 (by decide)) 5 u5 (by decide)) 6 u6 (by decide)) 7 u7 (by decide)) 8 u8) (RB.setI (RB.setI (RB.setI (RB.setI (RB.setI (RB.setI (RB.setI (RB.setI (hb.set0 b0) 1 u1 (by decide)) 2 u2 (by decide)) 3 u3 (by decide)) 4 u4 (by decide)) 5 u5 (by decide)) 6 u6 (by decide)) 7 u7 (by decide)) 8 u8 (by decide)) 9 u9) (RB.setI (RB.setI (RB.setI (RB.setI (RB.setI (RB.setI (RB.setI (RB.setI (RB.setI (hb.set0 b0) 1 u1 (by decide)) 2 u2 (by decide)) 3 u3 (by decide)) 4 u4 (by decide)) 5 u5 (by decide)) 6 u6 (by decide)) 7 u7 (by decide)) 8 u8 (by decide)) 9 u9 (by decide)) 10 u10) (RB.setI (RB.setI (RB.setI (RB.setI (RB.setI (RB.setI (RB.setI (RB.setI (RB.setI (RB.setI (hb.set0 b0) 1 u1 (by decide)) 2 u2 (by decide)) 3 u3 (by decide)) 4 u4 (by decide)) 5 u5 (by decide)) 6 u6 (by decide)) 7 u7 (by decide)) 8 u8 (by decide)) 9 u9 (by decide)) 10 u10 (by decide)) 11 u11
theorem RQ.store12 {w : World} {p d : Sl} {x : Rat} {g : Nat} {b1 b0 : Bool} {v1 v2 v3 v4 v5 v6 v7 v8 v9 v10 v11 u1 u2 u3 u4 u5 u6 u7 u8 u9 u10 u11 : Value} {t : TypeId} (h : RQ w p d x) (hr : w.heap[g]? = some (.cells #[.bool b1, v1, v2, v3, v4, v5, v6, v7, v8, v9, v10, v11] t (0, 0))) : RQ ((((((((((((w.setCell ⟨g, 0, none⟩ (.bool b0)).setCell ⟨g, 1, none⟩ u1).setCell ⟨g, 2, none⟩ u2).setCell ⟨g, 3, none⟩ u3).setCell ⟨g, 4, none⟩ u4).setCell ⟨g, 5, none⟩ u5).setCell ⟨g, 6, none⟩ u6).setCell ⟨g, 7, none⟩ u7).setCell ⟨g, 8, none⟩ u8).setCell ⟨g, 9, none⟩ u9).setCell ⟨g, 10, none⟩ u10).setCell ⟨g, 11, none⟩ u11) p d x := by
  have hb : RB w g := ⟨b1, cell_of_row w _ 0 _ _ _ hr⟩
  exact RQ.set (RQ.set (RQ.set (RQ.set (RQ.set (RQ.set (RQ.set (RQ.set (RQ.set (RQ.set (RQ.set (RQ.set h hb 0 (.bool b0)) (hb.set0 b0) 1 u1) (RB.setI (hb.set0 b0) 1 u1 (by decide)) 2 u2) (RB.setI (RB.setI (hb.set0 b0) 1 u1 (by decide)) 2 u2 (by decide)) 3 u3) (RB.setI (RB.setI (RB.setI (hb.set0 b0) 1 u1 (by decide)) 2 u2 (by decide)) 3 u3 (by decide)) 4 u4) (RB.setI (RB.setI (RB.setI (RB.setI (hb.set0 b0) 1 u1 (by decide)) 2 u2 (by decide)) 3 u3 (by decide)) 4 u4 (by decide)) 5 u5) (RB.setI (RB.setI (RB.setI (RB.setI (RB.setI (hb.set0 b0) 1 u1 (by decide)) 2 u2 (by decide)) 3 u3 (by decide)) 4 u4 (by decide)) 5 u5 (by decide)) 6 u6) (RB.setI (RB.setI (RB.setI (RB.setI (RB.setI (RB.setI (hb.set0 b0) 1 u1 (by decide)) 2 u2 (by decide)) 3 u3 (by decide)) 4 u4 (by decide)) 5 u5 (by decide)) 6 u6 (by decide)) 7 u7) (RB.setI (RB.setI (RB.setI (RB.setI (RB.setI (RB.setI (RB.setI (hb.set0 b0) 1 u1 (by decide)) 2 u2 (by decide)) 3 u3 (by decide)) 4 u4 (by decide)) 5 u5 (by decide)) 6 u6 (by decide)) 7 u7 (by decide)) 8 u8) (RB.setI (RB.setI (RB.setI (RB.setI (RB.setI (RB.setI (RB.setI (RB.setI (hb.set0 b0) 1 u1 (by decide)) 2 u2 (by decide)) 3 u3 (by decide)) 4 u4 (by decide)) 5 u5 (by decide)) 6 u6 (by decide)) 7 u7 (by decide)) 8 u8 (by decide)) 9 u9) (RB.setI (RB.setI (RB.setI (RB.setI (RB.setI (RB.setI (RB.setI (RB.setI (RB.setI (hb.set0 b0) 1 u1 (by decide)) 2 u2 (by decide)) 3 u3 (by decide)) 4 u4 (by decide)) 5 u5 (by decide)) 6 u6 (by decide)) 7 u7 (by decide)) 8 u8 (by decide)) 9 u9 (by decide)) 10 u10) (RB.setI (RB.setI (RB.setI (RB.setI (RB.setI (RB.setI (RB.setI (RB.setI (RB.setI (RB.setI (hb.set0 b0) 1 u1 (by decide)) 2 u2 (by decide)) 3 u3 (by decide)) 4 u4 (by decide)) 5 u5 (by decide)) 6 u6 (by decide)) 7 u7 (by decide)) 8 u8 (by decide)) 9 u9 (by decide)) 10 u10 (by decide)) 11 u11

theorem RQ.drewR {w : World} {p d : Sl} {x : Rat} (h : RQ w p d x) : RQ w.drew p d x := ⟨h.num, h.den⟩

theorem plane_end {V Z : World} {g : Nat} {x0 p0 : Bool} {x1 x2 x3 x4 x5 x6 x7 x8 x9 x10 x11 p1 p2 p3 p4 p5 p6 p7 p8 p9 p10 p11 : Value} {t : TypeId} (hZ : (((((((((((((V.setCell ⟨g, 0, none⟩ (.bool p0)).setCell ⟨g, 1, none⟩ p1).setCell ⟨g, 2, none⟩ p2).setCell ⟨g, 3, none⟩ p3).setCell ⟨g, 4, none⟩ p4).setCell ⟨g, 5, none⟩ p5).setCell ⟨g, 6, none⟩ p6).setCell ⟨g, 7, none⟩ p7).setCell ⟨g, 8, none⟩ p8).setCell ⟨g, 9, none⟩ p9).setCell ⟨g, 10, none⟩ p10).setCell ⟨g, 11, none⟩ p11)).drew = Z)
    (h4 : V.heap[g]? = some (.cells #[.bool x0, x1, x2, x3, x4, x5, x6, x7, x8, x9, x10, x11] t (0, 0))) :
    Z.heap[g]? = some (.cells #[.bool p0, p1, p2, p3, p4, p5, p6, p7, p8, p9, p10, p11] t (0, 0)) ∧ (∀ s a, RV V s a → RV Z s a) ∧ (∀ p d x, RQ V p d x → RQ Z p d x) ∧ (∀ B w, B ≤ g → Below B w V → Below B w Z) := by
  subst hZ
  exact ⟨oldD (store12 h4 _ _ _ _ _ _ _ _ _ _ _ _), fun s a h => (h.store12 h4).drew, fun p d x h => (h.store12 h4).drewR, fun B w b h => Below.drew (store12_below h b _ _ _ _ _ _ _ _ _ _ _ _)⟩

theorem pl_row : RowTy Tryz.prog 124 12 := rowTy_struct Tryz.underlying124 (by kernel_rfl)
/-- A plane of fractions as it lies in memory. -/
@[reducible] def plW (b0 b1 b2 b3 : Bool) (s : VS) (p d : Sl) : Value := .agg #[.bool b0, .slice s.x.p.A s.x.p.n s.x.p.c, .slice s.x.d.A s.x.d.n s.x.d.c, .bool b1, .slice s.y.p.A s.y.p.n s.y.p.c, .slice s.y.d.A s.y.d.n s.y.d.c, .bool b2, .slice s.z.p.A s.z.p.n s.z.p.c, .slice s.z.d.A s.z.d.n s.z.d.c, .bool b3, .slice p.A p.n p.c, .slice d.A d.n d.c]

theorem sign_z (x : Rat) : (x.num.sign == 0) = decide (x = 0) := by
  by_cases h : x = 0
  · subst h; rfl
  · rw [decide_eq_false h, beq_eq_false_iff_ne]
    intro e
    exact h (Rat.num_eq_zero.1 (Int.sign_eq_zero_iff_zero.1 e))

set_option maxRecDepth 100000 in
set_option maxHeartbeats 4000000 in
theorem r11_Zero_aux (b0 b1 b2 : Bool) (s : VS) (s0 s1 s2 : Int) (e0 e1 e2 : Bool) (w : World) (z0 : (s0 == 0) = e0) (z1 : (s1 == 0) = e1) (z2 : (s2 == 0) = e2)
    (h0 : ∀ W, Below w.heap.size w W → Calls Tryz.prog 93 #[qW b0 s.x.p s.x.d] W fun e w' => e = .returned (.int .i64 s0) ∧ Below W.heap.size W w')
    (h1 : ∀ W, Below w.heap.size w W → Calls Tryz.prog 93 #[qW b1 s.y.p s.y.d] W fun e w' => e = .returned (.int .i64 s1) ∧ Below W.heap.size W w')
    (h2 : ∀ W, Below w.heap.size w W → Calls Tryz.prog 93 #[qW b2 s.z.p s.z.d] W fun e w' => e = .returned (.int .i64 s2) ∧ Below W.heap.size W w') :
    Calls Tryz.prog 95 #[vW b0 b1 b2 s] w fun e w' => e = .returned (.bool (e0 && (e1 && e2))) ∧ Below w.heap.size w w' := by
  have H0 := Lib.hid h0
  have H1 := Lib.hid h1
  have H2 := Lib.hid h2
  clear h0 h1 h2
  cases e0
  · go_enter Tryz.func95, Tryz.ntmps95
    go_upto_region 1 with fail
    generalize hW : World.alloc w _ = W
    obtain ⟨hB, hsz, R1⟩ := A1 hW
    have R1 := Lib.hid R1
    clear hW hsz
    obtain ⟨c0, c1, c2, c3, c4, c5, c6, c7, c8⟩ := rowc9 R1.out
    go_wp2_with fail
    clear c0 c1 c2 c3 c4 c5 c6 c7 c8
    refine (H0.out _ hB).mono ?_
    rintro e w1 ⟨rfl, hb⟩
    replace hB := bstep hB hb
    have R1 := Lib.hid (keep hb R1.out)
    clear hb
    go_wp2_with fail
    go_ret
    exact ⟨rfl, hB⟩
  · cases e1
    · go_enter Tryz.func95, Tryz.ntmps95
      go_upto_region 1 with fail
      generalize hW : World.alloc w _ = W
      obtain ⟨hB, hsz, R1⟩ := A1 hW
      have R1 := Lib.hid R1
      clear hW hsz
      obtain ⟨c0, c1, c2, c3, c4, c5, c6, c7, c8⟩ := rowc9 R1.out
      go_wp2_with fail
      clear c0 c1 c2 c3 c4 c5 c6 c7 c8
      refine (H0.out _ hB).mono ?_
      rintro e w1 ⟨rfl, hb⟩
      replace hB := bstep hB hb
      have R1 := Lib.hid (keep hb R1.out)
      clear hb
      obtain ⟨c0, c1, c2, c3, c4, c5, c6, c7, c8⟩ := rowc9 R1.out
      go_wp2_with fail
      clear c0 c1 c2 c3 c4 c5 c6 c7 c8
      refine (H1.out _ hB).mono ?_
      rintro e w2 ⟨rfl, hb⟩
      replace hB := bstep hB hb
      have R1 := Lib.hid (keep hb R1.out)
      clear hb
      go_wp2_with fail
      go_ret
      exact ⟨rfl, hB⟩
    · cases e2
      all_goals
        go_enter Tryz.func95, Tryz.ntmps95
        go_upto_region 1 with fail
        generalize hW : World.alloc w _ = W
        obtain ⟨hB, hsz, R1⟩ := A1 hW
        have R1 := Lib.hid R1
        clear hW hsz
        obtain ⟨c0, c1, c2, c3, c4, c5, c6, c7, c8⟩ := rowc9 R1.out
        go_wp2_with fail
        clear c0 c1 c2 c3 c4 c5 c6 c7 c8
        refine (H0.out _ hB).mono ?_
        rintro e w1 ⟨rfl, hb⟩
        replace hB := bstep hB hb
        have R1 := Lib.hid (keep hb R1.out)
        clear hb
        obtain ⟨c0, c1, c2, c3, c4, c5, c6, c7, c8⟩ := rowc9 R1.out
        go_wp2_with fail
        clear c0 c1 c2 c3 c4 c5 c6 c7 c8
        refine (H1.out _ hB).mono ?_
        rintro e w2 ⟨rfl, hb⟩
        replace hB := bstep hB hb
        have R1 := Lib.hid (keep hb R1.out)
        clear hb
        obtain ⟨c0, c1, c2, c3, c4, c5, c6, c7, c8⟩ := rowc9 R1.out
        go_wp2_with fail
        clear c0 c1 c2 c3 c4 c5 c6 c7 c8
        refine (H2.out _ hB).mono ?_
        rintro e w3 ⟨rfl, hb⟩
        replace hB := bstep hB hb
        have R1 := Lib.hid (keep hb R1.out)
        clear hb
        go_wp2_with fail
        go_ret
        exact ⟨rfl, hB⟩
theorem r11_Zero (a : V3) (s : VS) (w : World) (hs : RV w s a) :
    Calls Tryz.prog 95 #[vW (sgB a.x.num) (sgB a.y.num) (sgB a.z.num) s] w fun e w' => e = .returned (.bool (zero3 a)) ∧ Below w.heap.size w w' :=
  r11_Zero_aux _ _ _ s _ _ _ _ _ _ w (sign_z a.x) (sign_z a.y) (sign_z a.z) (fun W hb => r3_Sign a.x _ _ W (hs.x.below hb)) (fun W hb => r3_Sign a.y _ _ W (hs.y.below hb)) (fun W hb => r3_Sign a.z _ _ W (hs.z.below hb))


set_option maxRecDepth 100000 in
set_option maxHeartbeats 16000000 in
theorem r11_ReadPlane (s : ByteArray × ByteArray × ByteArray) (c : ByteArray) (w : World) (hs : Sh6 s) (hc : c.size ≤ 1000000) :
    Calls Tryz.prog 92 #[tpW s c] w fun e w' => ∃ (u : VS) (p d : Sl), e = .returned (.tuple #[plW (sgB (vvX s).x.num) (sgB (vvX s).y.num) (sgB (vvX s).z.num) (sgB (rvX c).num) u p d, .bool (pokB s c)]) ∧ RV w' u (vvX s) ∧ RQ w' p d (rvX c) ∧ Below w.heap.size w w' := by
  have H0 := Lib.hid (fun W => r11_From s W hs)
  have H1 := Lib.hid (fun W => r3_From c W hc)
  have H2 := Lib.hid (fun W u (h : RV W u (vvX s)) => r11_Zero (vvX s) u W h)
  unfold FrP at H1
  obtain ⟨s0, s1, s2⟩ := s
  unfold pokB
  unfold txW tpW at *
  simp only at *
  clear hs hc
  generalize zero3 (vvX (s0, s1, s2)) = z at *
  generalize vvX (s0, s1, s2) = a at *
  generalize rvX c = b at *
  generalize vvB (s0, s1, s2) = k at *
  generalize rvB c = j at *
  generalize sgB a.x.num = a0 at *
  generalize sgB a.y.num = a1 at *
  generalize sgB a.z.num = a2 at *
  generalize sgB b.num = q0 at *
  go_enter Tryz.func92, Tryz.ntmps92
  go_wp2_with fail
  generalize hW : (World.alloc w _).alloc _ = W
  obtain ⟨hB, hsz, R1, R2⟩ := A2 hW
  have R1 := Lib.hid R1
  have R2 := Lib.hid R2
  clear hW hsz
  refine (H0.out _).mono ?_
  rintro e w1 ⟨u, rfl, h0, hb⟩
  replace hB := bstep hB hb
  have R1 := Lib.hid (keep hb R1.out)
  have R2 := Lib.hid (keep hb R2.out)
  have K0 := Lib.hid h0
  clear h0
  clear hb
  go_upto_region 2 with fail
  have n1 : Hid (w.heap.size + 1 < w1.heap.size) := Lib.hid (lt_of_row R2.out)
  generalize hW : World.alloc _ _ = V
  obtain ⟨hb, hsz, R4⟩ := A1 hW
  replace hB := bstep hB hb
  have R1 := Lib.hid (keep hb R1.out)
  have R2 := Lib.hid (keep hb R2.out)
  have K0 := Lib.hid (K0.out.below hb)
  clear hb
  have R4 := Lib.hid R4
  clear hW hsz
  obtain ⟨R1c0, R1c1, R1c2, R1c3, R1f0, R1f1, R1f2, R1f3⟩ := row4 R1.out
  go_wp2_with fail
  clear R1c0 R1c1 R1c2 R1c3 R1f0 R1f1 R1f2 R1f3
  refine (H1.out _).mono ?_
  rintro e w2 ⟨p, d, rfl, h1, hb⟩
  replace hB := bstep hB hb
  have R2 := Lib.hid (keep hb R2.out)
  have R4 := Lib.hid (keep hb R4.out)
  have K0 := Lib.hid (K0.out.below hb)
  have K1 := Lib.hid h1
  clear h1
  clear hb
  go_upto_region 3 with fail
  have n2 : Hid (w.heap.size + 1 < w2.heap.size) := Lib.hid (lt_of_row R2.out)
  generalize hW : World.alloc _ _ = V2
  obtain ⟨hb, hsz, R6⟩ := A1 hW
  replace hB := bstep hB hb
  have R2 := Lib.hid (keep hb R2.out)
  have R4 := Lib.hid (keep hb R4.out)
  have K0 := Lib.hid (K0.out.below hb)
  have K1 := Lib.hid (K1.out.below hb)
  clear hb
  have R6 := Lib.hid R6
  clear hW hsz
  have M1 := Lib.hid (show w1.heap.size ≠ w.heap.size + 1 by have := n1.out; omega)
  have M2 := Lib.hid (show w2.heap.size ≠ w.heap.size + 1 by have := n2.out; omega)
  have LR4 := fun (w' : World) (h : w'.heap[w1.heap.size]? = some (.cells #[.bool a0, .slice u.x.p.A u.x.p.n u.x.p.c, .slice u.x.d.A u.x.d.n u.x.d.c, .bool a1, .slice u.y.p.A u.y.p.n u.y.p.c, .slice u.y.d.A u.y.d.n u.y.d.c, .bool a2, .slice u.z.p.A u.z.p.n u.z.p.c, .slice u.z.d.A u.z.d.n u.z.d.c] 104 (0, 0))) => rowc9 h
  have LR6 := fun (w' : World) (h : w'.heap[w2.heap.size]? = some (.cells #[.bool q0, .slice p.A p.n p.c, .slice d.A d.n d.c] 40 (0, 0))) => rowc3 h
  have HB := Lib.hid hB
  cases k <;> cases j
  · obtain ⟨g0, g1, g2, g3, g4, g5, g6, g7, g8, g9, g10, g11, g12, g13, g14, g15, g16, g17, g18, g19, g20, g21, g22, g23⟩ := row12 R2.out
    obtain ⟨n0_, n1_, n2_, n3_, n4_, n5_, n6_, n7_, n8_⟩ := rowc9 R4.out
    obtain ⟨m0, m1, m2⟩ := rowc3 R6.out
    clear LR4 LR6
    go_region
    all_goals
      go_wp2_with fail
      generalize hZ : World.drew _ = Z
      obtain ⟨E2, EV, EQ, EB⟩ := plane_end hZ R2.out
      have k0 := EV _ _ K0.out
      have k1 := EQ _ _ _ K1.out
      have hB := EB _ _ (by omega) hB
      clear hZ EV EQ EB
      exact bodyPost_ret (res_ct rfl pl_row rfl E2 rfl) rfl ⟨_, _, _, rfl, k0, k1, hB⟩
  · obtain ⟨g0, g1, g2, g3, g4, g5, g6, g7, g8, g9, g10, g11, g12, g13, g14, g15, g16, g17, g18, g19, g20, g21, g22, g23⟩ := row12 R2.out
    obtain ⟨n0_, n1_, n2_, n3_, n4_, n5_, n6_, n7_, n8_⟩ := rowc9 R4.out
    obtain ⟨m0, m1, m2⟩ := rowc3 R6.out
    clear LR4 LR6
    go_region
    all_goals
      go_wp2_with fail
      generalize hZ : World.drew _ = Z
      obtain ⟨E2, EV, EQ, EB⟩ := plane_end hZ R2.out
      have k0 := EV _ _ K0.out
      have k1 := EQ _ _ _ K1.out
      have hB := EB _ _ (by omega) hB
      clear hZ EV EQ EB
      exact bodyPost_ret (res_ct rfl pl_row rfl E2 rfl) rfl ⟨_, _, _, rfl, k0, k1, hB⟩
  · obtain ⟨g0, g1, g2, g3, g4, g5, g6, g7, g8, g9, g10, g11, g12, g13, g14, g15, g16, g17, g18, g19, g20, g21, g22, g23⟩ := row12 R2.out
    obtain ⟨n0_, n1_, n2_, n3_, n4_, n5_, n6_, n7_, n8_⟩ := rowc9 R4.out
    obtain ⟨m0, m1, m2⟩ := rowc3 R6.out
    clear LR4 LR6
    go_region
    all_goals
      go_wp2_with fail
      generalize hZ : World.drew _ = Z
      obtain ⟨E2, EV, EQ, EB⟩ := plane_end hZ R2.out
      have k0 := EV _ _ K0.out
      have k1 := EQ _ _ _ K1.out
      have hB := EB _ _ (by omega) hB
      clear hZ EV EQ EB
      exact bodyPost_ret (res_ct rfl pl_row rfl E2 rfl) rfl ⟨_, _, _, rfl, k0, k1, hB⟩
  · have hB0 := hB.drew
    first
    | go_region_held3 (fun w' => w'.heap[w1.heap.size]? = some (.cells #[.bool a0, .slice u.x.p.A u.x.p.n u.x.p.c, .slice u.x.d.A u.x.d.n u.x.d.c, .bool a1, .slice u.y.p.A u.y.p.n u.y.p.c, .slice u.y.d.A u.y.d.n u.y.d.c, .bool a2, .slice u.z.p.A u.z.p.n u.z.p.c, .slice u.z.d.A u.z.d.n u.z.d.c] 104 (0, 0)) ∧ w'.heap[w2.heap.size]? = some (.cells #[.bool q0, .slice p.A p.n p.c, .slice d.A d.n d.c] 40 (0, 0))) (first | with_reducible exact ⟨R4.out, R6.out⟩ | with_reducible exact ⟨oldD R4.out, oldD R6.out⟩ | with_reducible exact ⟨store12_other M1.out R4.out _ _ _ _ _ _ _ _ _ _ _ _, store12_other M2.out R6.out _ _ _ _ _ _ _ _ _ _ _ _⟩ | with_reducible exact ⟨oldD (store12_other M1.out R4.out _ _ _ _ _ _ _ _ _ _ _ _), oldD (store12_other M2.out R6.out _ _ _ _ _ _ _ _ _ _ _ _)⟩)
        (first
          | (go_at_call 95; (first | (with_reducible refine (H2.out _ _ K0.out.drewR).mono ?_) | (with_reducible refine (H2.out _ _ K0.out).mono ?_)); rintro e wq0 ⟨rfl, hb⟩; have hB1 := bstep hB0 hb; have R2 := Lib.hid (keep hb R2.out); have R4 := Lib.hid (keep hb R4.out); have R6 := Lib.hid (keep hb R6.out); have R4x := R4.out; have R6x := R6.out; obtain ⟨g0, g1, g2, g3, g4, g5, g6, g7, g8, g9, g10, g11, g12, g13, g14, g15, g16, g17, g18, g19, g20, g21, g22, g23⟩ := row12 R2.out; have K0 := Lib.hid (K0.out.drewR.below hb); have K1 := Lib.hid (K1.out.drewR.below hb); clear hb))
    | fail
    all_goals
      go_wp2_with fail
      exact bodyPost_ret (res_ct rfl pl_row rfl (store12 R2.out _ _ _ _ _ _ _ _ _ _ _ _) rfl) rfl ⟨_, _, _, rfl, K0.out.store12 R2.out, K1.out.store12 R2.out, store12_below hB1 (by omega) _ _ _ _ _ _ _ _ _ _ _ _⟩


set_option maxRecDepth 100000 in
set_option maxHeartbeats 16000000 in
theorem r11_Height_I (pN : V3) (pC : Rat) (a : V3) (spN : VS) (ppC dpC : Sl) (sa : VS) (w : World) (hpN : RV w spN pN) (hpC : RQ w ppC dpC pC) (ha : RV w sa a) (zpN : SzV 100000 pN) (zpC : Sz 100000 pC) (za : SzV 100000 a) :
    Calls Tryz.prog 94 #[.agg #[.bool (sgB (pN).x.num), .slice spN.x.p.A spN.x.p.n spN.x.p.c, .slice spN.x.d.A spN.x.d.n spN.x.d.c, .bool (sgB (pN).y.num), .slice spN.y.p.A spN.y.p.n spN.y.p.c, .slice spN.y.d.A spN.y.d.n spN.y.d.c, .bool (sgB (pN).z.num), .slice spN.z.p.A spN.z.p.n spN.z.p.c, .slice spN.z.d.A spN.z.d.n spN.z.d.c, .bool (sgB (pC).num), .slice ppC.A ppC.n ppC.c, .slice dpC.A dpC.n dpC.c], .agg #[.bool (sgB (a).x.num), .slice sa.x.p.A sa.x.p.n sa.x.p.c, .slice sa.x.d.A sa.x.d.n sa.x.d.c, .bool (sgB (a).y.num), .slice sa.y.p.A sa.y.p.n sa.y.p.c, .slice sa.y.d.A sa.y.d.n sa.y.d.c, .bool (sgB (a).z.num), .slice sa.z.p.A sa.z.p.n sa.z.p.c, .slice sa.z.d.A sa.z.d.n sa.z.d.c]] w fun e w' => ∃ p d : Sl, e = .returned (qW (sgB (dotI pN a - pC).num) p d) ∧ RQ w' p d (dotI pN a - pC) ∧ Below w.heap.size w w' := by
  have H0 := Lib.hid (fun W (hb' : Below w.heap.size w W) => r11_Inner pN a spN sa W (hpN.below hb') (ha.below hb') (zpN.mono (by decide)) (za.mono (by decide)))
  have H1 := Lib.hid (fun W (hb' : Below w.heap.size w W) (p_0 d_0 : Sl) (k0 : RQ W p_0 d_0 (dotI pN a)) => r3_Sub (dotI pN a) pC p_0 d_0 ppC dpC W k0 (hpC.below hb') ((sz_dotI (show SzV 100000 pN from zpN) (show SzV 100000 a from za)).mono (by decide)) (zpC.mono (by decide)))
  clear hpN hpC ha zpN zpC za
  try generalize dotI pN a = v_0 at *
  try generalize sgB v_0.num = c_0 at *
  try generalize v_0 - pC = v_1 at *
  try generalize sgB v_1.num = c_1 at *
  try generalize sgB pN.x.num = pN0_ at *
  try generalize sgB pN.y.num = pN1_ at *
  try generalize sgB pN.z.num = pN2_ at *
  try generalize sgB pC.num = pC0_ at *
  try generalize sgB a.x.num = a0_ at *
  try generalize sgB a.y.num = a1_ at *
  try generalize sgB a.z.num = a2_ at *
  go_enter Tryz.func94, Tryz.ntmps94
  go_upto_region 1 with fail
  generalize hW : ((World.alloc w _).alloc _).alloc _ = W
  obtain ⟨hB, hsz, Rp, Ra, Ro⟩ := A3 hW
  have Rp := Lib.hid Rp
  have Ra := Lib.hid Ra
  have Ro := Lib.hid Ro
  clear hW hsz
  have LRp := fun (w' : World) (h : w'.heap[w.heap.size]? = some (.cells #[.bool pN0_, .slice spN.x.p.A spN.x.p.n spN.x.p.c, .slice spN.x.d.A spN.x.d.n spN.x.d.c, .bool pN1_, .slice spN.y.p.A spN.y.p.n spN.y.p.c, .slice spN.y.d.A spN.y.d.n spN.y.d.c, .bool pN2_, .slice spN.z.p.A spN.z.p.n spN.z.p.c, .slice spN.z.d.A spN.z.d.n spN.z.d.c, .bool pC0_, .slice ppC.A ppC.n ppC.c, .slice dpC.A dpC.n dpC.c] 124 (0, 0))) => rowc12 h
  have LRa := fun (w' : World) (h : w'.heap[w.heap.size + 1]? = some (.cells #[.bool a0_, .slice sa.x.p.A sa.x.p.n sa.x.p.c, .slice sa.x.d.A sa.x.d.n sa.x.d.c, .bool a1_, .slice sa.y.p.A sa.y.p.n sa.y.p.c, .slice sa.y.d.A sa.y.d.n sa.y.d.c, .bool a2_, .slice sa.z.p.A sa.z.p.n sa.z.p.c, .slice sa.z.d.A sa.z.d.n sa.z.d.c] 104 (0, 0))) => rowc9 h
  have hB0 := hB.drew
  first
  | go_region_held3 (fun w' => w'.heap[w.heap.size]? = some (.cells #[.bool pN0_, .slice spN.x.p.A spN.x.p.n spN.x.p.c, .slice spN.x.d.A spN.x.d.n spN.x.d.c, .bool pN1_, .slice spN.y.p.A spN.y.p.n spN.y.p.c, .slice spN.y.d.A spN.y.d.n spN.y.d.c, .bool pN2_, .slice spN.z.p.A spN.z.p.n spN.z.p.c, .slice spN.z.d.A spN.z.d.n spN.z.d.c, .bool pC0_, .slice ppC.A ppC.n ppC.c, .slice dpC.A dpC.n dpC.c] 124 (0, 0)) ∧ w'.heap[w.heap.size + 1]? = some (.cells #[.bool a0_, .slice sa.x.p.A sa.x.p.n sa.x.p.c, .slice sa.x.d.A sa.x.d.n sa.x.d.c, .bool a1_, .slice sa.y.p.A sa.y.p.n sa.y.p.c, .slice sa.y.d.A sa.y.d.n sa.y.d.c, .bool a2_, .slice sa.z.p.A sa.z.p.n sa.z.p.c, .slice sa.z.d.A sa.z.d.n sa.z.d.c] 104 (0, 0))) (first | with_reducible exact ⟨Rp.out, Ra.out⟩ | with_reducible exact ⟨oldD Rp.out, oldD Ra.out⟩ | with_reducible exact ⟨store3_other (by omega) Rp.out _ _ _, store3_other (by omega) Ra.out _ _ _⟩)
      (first
        | (go_at_call 84; (with_reducible refine (H0.out _ hB0).mono ?_); rintro e wq0 ⟨p_0, d_0, rfl, hk_0, hb⟩; have hB1 := bstep hB0 hb; have Rp := Lib.hid (keep hb Rp.out); have Ra := Lib.hid (keep hb Ra.out); have Ro := Lib.hid (keep hb Ro.out); have Rpx := Rp.out; have Rax := Ra.out; have K0 := Lib.hid hk_0; clear hk_0; clear hb)
        | (go_at_call 113; (with_reducible refine (H1.out _ hB1 p_0 d_0 K0.out).mono ?_); rintro e wq1 ⟨p_1, d_1, rfl, hk_1, hb⟩; have hB2 := bstep hB1 hb; have Rp := Lib.hid (keep hb Rp.out); have Ra := Lib.hid (keep hb Ra.out); have Ro := Lib.hid (keep hb Ro.out); have Rpx := Rp.out; have Rax := Ra.out; obtain ⟨Rof0, Rof1, Rof2, Rof3, Rof4, Rof5⟩ := row3 Ro.out; have K1 := Lib.hid hk_1; clear hk_1; have K0 := Lib.hid (K0.out.below hb); clear hb))
  | fail
  all_goals
    go_wp2_with fail
    exact bodyPost_ret (res_c rfl q_row rfl (store3 Ro.out _ _ _) rfl) rfl ⟨_, _, rfl, K1.out.store3 Ro.out, store3_below hB2 (by omega) _ _ _⟩
end Go.Proofs.YtgbabmkclojgeaaGreatDoor
