/- A PART OF THE PROOF, JOINED OUT OF 2 TEXTS. -/
import Derived.Test.YtgbabmkclojgeaaGreatDoorQjRef
/- The reference of layer 11: vectors as they lie in memory; To, Plus, Minus, Times, Inner, Outer. -/
namespace Go.Proofs.YtgbabmkclojgeaaGreatDoor
open Go.RowKit Go.Shelf Go.Sort

attribute [local go_sem] Oper.semAt_some

theorem cell_heap (w : World) (g i : Nat) : w.cell? ⟨g, i, none⟩ = (match w.heap[g]? with | some (.cells c _ _) => c[i]? | _ => none) := by
  unfold World.cell?
  cases w.heap[g]? with
  | none => rfl
  | some o => cases o <;> rfl
theorem frozen_heap (w : World) (g i : Nat) : w.frozen? ⟨g, i, none⟩ = (match w.heap[g]? with | some (.cells _ _ fr) => decide (fr.1 ≤ i) && decide (i < fr.2) | _ => false) := by
  unfold World.frozen?
  cases w.heap[g]? with
  | none => rfl
  | some o => cases o <;> rfl

theorem cS1 {w : World} {g b i k : Nat} {x v : Value} (hne : b ≠ g) (h : w.cell? ⟨b, i, none⟩ = some v) : (w.setCell ⟨g, k, none⟩ x).cell? ⟨b, i, none⟩ = some v := by
  rw [World.cell?_setCell_other _ ⟨g, k, none⟩ ⟨b, i, none⟩ x (by intro e; injection e with e1; exact hne e1.symm)]; exact h
/-- A row begins with a bool. -/
def RB (w : World) (g : Nat) : Prop := ∃ x, w.cell? ⟨g, 0, none⟩ = some (.bool x)
theorem RB.set0 {w : World} {g : Nat} (h : RB w g) (b : Bool) : RB (w.setCell ⟨g, 0, none⟩ (.bool b)) g := by
  obtain ⟨x, h⟩ := h
  exact ⟨b, World.cell?_setCell_same w ⟨g, 0, none⟩ _ h⟩
theorem RB.setI {w : World} {g : Nat} (h : RB w g) (i : Nat) (v : Value) (hi : i ≠ 0) : RB (w.setCell ⟨g, i, none⟩ v) g := by
  obtain ⟨x, h⟩ := h
  refine ⟨x, ?_⟩
  rw [World.cell?_setCell_other w ⟨g, i, none⟩ ⟨g, 0, none⟩ v (by intro e; injection e with _ e2; exact hi e2)]; exact h
theorem RQ.set {w : World} {p d : Sl} {x : Rat} {g : Nat} (h : RQ w p d x) (hb : RB w g) (i : Nat) (v : Value) : RQ (w.setCell ⟨g, i, none⟩ v) p d x := by
  obtain ⟨b, hb⟩ := hb
  exact ⟨h.num.set hb, h.den.set hb⟩

/-- The slices of a fraction, of a vector of fractions. -/
structure QS where
  p : Sl
  d : Sl
structure VS where
  x : QS
  y : QS
  z : QS
@[reducible] def vW (b0 b1 b2 : Bool) (s : VS) : Value := .agg #[.bool b0, .slice s.x.p.A s.x.p.n s.x.p.c, .slice s.x.d.A s.x.d.n s.x.d.c, .bool b1, .slice s.y.p.A s.y.p.n s.y.p.c, .slice s.y.d.A s.y.d.n s.y.d.c, .bool b2, .slice s.z.p.A s.z.p.n s.z.p.c, .slice s.z.d.A s.z.d.n s.z.d.c]
structure RV (w : World) (s : VS) (a : V3) : Prop where
  x : RQ w s.x.p s.x.d a.x
  y : RQ w s.y.p s.y.d a.y
  z : RQ w s.z.p s.z.d a.z
theorem RV.below {w w' : World} {s : VS} {a : V3} (h : RV w s a) (hb : Below w.heap.size w w') : RV w' s a := ⟨h.x.below hb, h.y.below hb, h.z.below hb⟩
theorem RV.set {w : World} {s : VS} {a : V3} {g : Nat} (h : RV w s a) (hb : RB w g) (i : Nat) (v : Value) : RV (w.setCell ⟨g, i, none⟩ v) s a := ⟨h.x.set hb i v, h.y.set hb i v, h.z.set hb i v⟩
theorem RV.drewR {w : World} {s : VS} {a : V3} (h : RV w s a) : RV w.drew s a := ⟨⟨h.x.num, h.x.den⟩, ⟨h.y.num, h.y.den⟩, ⟨h.z.num, h.z.den⟩⟩
theorem v_row : RowTy Tryz.prog 104 9 := rowTy_struct Tryz.underlying104 (by kernel_rfl)

theorem rowc9 {W : World} {g : Nat} {v0 v1 v2 v3 v4 v5 v6 v7 v8 : Value} {t : TypeId} (h : W.heap[g]? = some (.cells #[v0, v1, v2, v3, v4, v5, v6, v7, v8] t (0, 0))) : W.cell? ⟨g, 0, none⟩ = some v0 ∧ W.cell? ⟨g, 1, none⟩ = some v1 ∧ W.cell? ⟨g, 2, none⟩ = some v2 ∧ W.cell? ⟨g, 3, none⟩ = some v3 ∧ W.cell? ⟨g, 4, none⟩ = some v4 ∧ W.cell? ⟨g, 5, none⟩ = some v5 ∧ W.cell? ⟨g, 6, none⟩ = some v6 ∧ W.cell? ⟨g, 7, none⟩ = some v7 ∧ W.cell? ⟨g, 8, none⟩ = some v8 :=
  ⟨cell_of_row W _ 0 _ _ _ h, cell_of_row W _ 1 _ _ _ h, cell_of_row W _ 2 _ _ _ h, cell_of_row W _ 3 _ _ _ h, cell_of_row W _ 4 _ _ _ h, cell_of_row W _ 5 _ _ _ h, cell_of_row W _ 6 _ _ _ h, cell_of_row W _ 7 _ _ _ h, cell_of_row W _ 8 _ _ _ h⟩
theorem row9 {W : World} {g : Nat} {v0 v1 v2 v3 v4 v5 v6 v7 v8 : Value} {t : TypeId} (h : W.heap[g]? = some (.cells #[v0, v1, v2, v3, v4, v5, v6, v7, v8] t (0, 0))) : W.cell? ⟨g, 0, none⟩ = some v0 ∧ W.cell? ⟨g, 1, none⟩ = some v1 ∧ W.cell? ⟨g, 2, none⟩ = some v2 ∧ W.cell? ⟨g, 3, none⟩ = some v3 ∧ W.cell? ⟨g, 4, none⟩ = some v4 ∧ W.cell? ⟨g, 5, none⟩ = some v5 ∧ W.cell? ⟨g, 6, none⟩ = some v6 ∧ W.cell? ⟨g, 7, none⟩ = some v7 ∧ W.cell? ⟨g, 8, none⟩ = some v8 ∧ W.frozen? ⟨g, 0, none⟩ = false ∧ W.frozen? ⟨g, 1, none⟩ = false ∧ W.frozen? ⟨g, 2, none⟩ = false ∧ W.frozen? ⟨g, 3, none⟩ = false ∧ W.frozen? ⟨g, 4, none⟩ = false ∧ W.frozen? ⟨g, 5, none⟩ = false ∧ W.frozen? ⟨g, 6, none⟩ = false ∧ W.frozen? ⟨g, 7, none⟩ = false ∧ W.frozen? ⟨g, 8, none⟩ = false :=
  ⟨cell_of_row W _ 0 _ _ _ h, cell_of_row W _ 1 _ _ _ h, cell_of_row W _ 2 _ _ _ h, cell_of_row W _ 3 _ _ _ h, cell_of_row W _ 4 _ _ _ h, cell_of_row W _ 5 _ _ _ h, cell_of_row W _ 6 _ _ _ h, cell_of_row W _ 7 _ _ _ h, cell_of_row W _ 8 _ _ _ h, frozen_of_row W _ 0 _ _ h, frozen_of_row W _ 1 _ _ h, frozen_of_row W _ 2 _ _ h, frozen_of_row W _ 3 _ _ h, frozen_of_row W _ 4 _ _ h, frozen_of_row W _ 5 _ _ h, frozen_of_row W _ 6 _ _ h, frozen_of_row W _ 7 _ _ h, frozen_of_row W _ 8 _ _ h⟩
set_option maxHeartbeats 1000000 in
theorem store9 {w : World} {g : Nat} {v0 v1 v2 v3 v4 v5 v6 v7 v8 : Value} {t : TypeId} (h : w.heap[g]? = some (.cells #[v0, v1, v2, v3, v4, v5, v6, v7, v8] t (0, 0))) (u0 u1 u2 u3 u4 u5 u6 u7 u8 : Value) : (((((((((w.setCell ⟨g, 0, none⟩ u0).setCell ⟨g, 1, none⟩ u1).setCell ⟨g, 2, none⟩ u2).setCell ⟨g, 3, none⟩ u3).setCell ⟨g, 4, none⟩ u4).setCell ⟨g, 5, none⟩ u5).setCell ⟨g, 6, none⟩ u6).setCell ⟨g, 7, none⟩ u7).setCell ⟨g, 8, none⟩ u8).heap[g]? = some (.cells #[u0, u1, u2, u3, u4, u5, u6, u7, u8] t (0, 0)) := by
  rw [heap_setCell_same _ g 8 _ _ u8 (heap_setCell_same _ g 7 _ _ u7 (heap_setCell_same _ g 6 _ _ u6 (heap_setCell_same _ g 5 _ _ u5 (heap_setCell_same _ g 4 _ _ u4 (heap_setCell_same _ g 3 _ _ u3 (heap_setCell_same _ g 2 _ _ u2 (heap_setCell_same _ g 1 _ _ u1 (heap_setCell_same _ g 0 _ _ u0 h))))))))]
  simp only [List.setIfInBounds_toArray, List.set_cons_zero, List.set_cons_succ]
theorem store9_below {w0 w : World} {B g : Nat} (h : Below B w0 w) (hB : B ≤ g) (u0 u1 u2 u3 u4 u5 u6 u7 u8 : Value) : Below B w0 (((((((((w.setCell ⟨g, 0, none⟩ u0).setCell ⟨g, 1, none⟩ u1).setCell ⟨g, 2, none⟩ u2).setCell ⟨g, 3, none⟩ u3).setCell ⟨g, 4, none⟩ u4).setCell ⟨g, 5, none⟩ u5).setCell ⟨g, 6, none⟩ u6).setCell ⟨g, 7, none⟩ u7).setCell ⟨g, 8, none⟩ u8) :=
  ((((((((h.setCell (p := ⟨g, 0, none⟩) hB _).setCell (p := ⟨g, 1, none⟩) hB _).setCell (p := ⟨g, 2, none⟩) hB _).setCell (p := ⟨g, 3, none⟩) hB _).setCell (p := ⟨g, 4, none⟩) hB _).setCell (p := ⟨g, 5, none⟩) hB _).setCell (p := ⟨g, 6, none⟩) hB _).setCell (p := ⟨g, 7, none⟩) hB _).setCell (p := ⟨g, 8, none⟩) hB _
theorem cS9 {w : World} {g b i : Nat} {u0 u1 u2 u3 u4 u5 u6 u7 u8 v : Value} (hne : b ≠ g) (h : w.cell? ⟨b, i, none⟩ = some v) : (((((((((w.setCell ⟨g, 0, none⟩ u0).setCell ⟨g, 1, none⟩ u1).setCell ⟨g, 2, none⟩ u2).setCell ⟨g, 3, none⟩ u3).setCell ⟨g, 4, none⟩ u4).setCell ⟨g, 5, none⟩ u5).setCell ⟨g, 6, none⟩ u6).setCell ⟨g, 7, none⟩ u7).setCell ⟨g, 8, none⟩ u8).cell? ⟨b, i, none⟩ = some v :=
  cS1 hne (cS1 hne (cS1 hne (cS1 hne (cS1 hne (cS1 hne (cS1 hne (cS1 hne (cS1 hne h))))))))
theorem store9_other {w : World} {g k : Nat} {o : Obj} (hne : k ≠ g) (h : w.heap[k]? = some o) (u0 u1 u2 u3 u4 u5 u6 u7 u8 : Value) : (((((((((w.setCell ⟨g, 0, none⟩ u0).setCell ⟨g, 1, none⟩ u1).setCell ⟨g, 2, none⟩ u2).setCell ⟨g, 3, none⟩ u3).setCell ⟨g, 4, none⟩ u4).setCell ⟨g, 5, none⟩ u5).setCell ⟨g, 6, none⟩ u6).setCell ⟨g, 7, none⟩ u7).setCell ⟨g, 8, none⟩ u8).heap[k]? = some o := by
  rw [heap_setCell_other _ ⟨g, 8, none⟩ _ _ hne, heap_setCell_other _ ⟨g, 7, none⟩ _ _ hne, heap_setCell_other _ ⟨g, 6, none⟩ _ _ hne, heap_setCell_other _ ⟨g, 5, none⟩ _ _ hne, heap_setCell_other _ ⟨g, 4, none⟩ _ _ hne, heap_setCell_other _ ⟨g, 3, none⟩ _ _ hne, heap_setCell_other _ ⟨g, 2, none⟩ _ _ hne, heap_setCell_other _ ⟨g, 1, none⟩ _ _ hne, heap_setCell_other _ ⟨g, 0, none⟩ _ _ hne]; exact h
theorem RV.store9 {w : World} {s : VS} {a : V3} {g : Nat} {b1 b0 : Bool} {v1 v2 v3 v4 v5 v6 v7 v8 u1 u2 u3 u4 u5 u6 u7 u8 : Value} {t : TypeId} (h : RV w s a) (hr : w.heap[g]? = some (.cells #[.bool b1, v1, v2, v3, v4, v5, v6, v7, v8] t (0, 0))) : RV (((((((((w.setCell ⟨g, 0, none⟩ (.bool b0)).setCell ⟨g, 1, none⟩ u1).setCell ⟨g, 2, none⟩ u2).setCell ⟨g, 3, none⟩ u3).setCell ⟨g, 4, none⟩ u4).setCell ⟨g, 5, none⟩ u5).setCell ⟨g, 6, none⟩ u6).setCell ⟨g, 7, none⟩ u7).setCell ⟨g, 8, none⟩ u8) s a := by
  have hb : RB w g := ⟨b1, cell_of_row w _ 0 _ _ _ hr⟩
  exact RV.set (RV.set (RV.set (RV.set (RV.set (RV.set (RV.set (RV.set (RV.set h hb 0 (.bool b0)) (hb.set0 b0) 1 u1) (RB.setI (hb.set0 b0) 1 u1 (by decide)) 2 u2) (RB.setI (RB.setI (hb.set0 b0) 1 u1 (by decide)) 2 u2 (by decide)) 3 u3) (RB.setI (RB.setI (RB.setI (hb.set0 b0) 1 u1 (by decide)) 2 u2 (by decide)) 3 u3 (by decide)) 4 u4) (RB.setI (RB.setI (RB.setI (RB.setI (hb.set0 b0) 1 u1 (by decide)) 2 u2 (by decide)) 3 u3 (by decide)) 4 u4 (by decide)) 5 u5) (RB.setI (RB.setI (RB.setI (RB.setI (RB.setI (hb.set0 b0) 1 u1 (by decide)) 2 u2 (by decide)) 3 u3 (by decide)) 4 u4 (by decide)) 5 u5 (by decide)) 6 u6) (RB.setI (RB.setI (RB.setI (RB.setI (RB.setI (RB.setI (hb.set0 b0) 1 u1 (by decide)) 2 u2 (by decide)) 3 u3 (by decide)) 4 u4 (by decide)) 5 u5 (by decide)) 6 u6 (by decide)) 7 u7) (RB.setI (RB.setI (RB.setI (RB.setI (RB.setI (RB.setI (RB.setI (hb.set0 b0) 1 u1 (by decide)) 2 u2 (by decide)) 3 u3 (by decide)) 4 u4 (by decide)) 5 u5 (by decide)) 6 u6 (by decide)) 7 u7 (by decide)) 8 u8
theorem RQ.store9 {w : World} {p d : Sl} {x : Rat} {g : Nat} {b1 b0 : Bool} {v1 v2 v3 v4 v5 v6 v7 v8 u1 u2 u3 u4 u5 u6 u7 u8 : Value} {t : TypeId} (h : RQ w p d x) (hr : w.heap[g]? = some (.cells #[.bool b1, v1, v2, v3, v4, v5, v6, v7, v8] t (0, 0))) : RQ (((((((((w.setCell ⟨g, 0, none⟩ (.bool b0)).setCell ⟨g, 1, none⟩ u1).setCell ⟨g, 2, none⟩ u2).setCell ⟨g, 3, none⟩ u3).setCell ⟨g, 4, none⟩ u4).setCell ⟨g, 5, none⟩ u5).setCell ⟨g, 6, none⟩ u6).setCell ⟨g, 7, none⟩ u7).setCell ⟨g, 8, none⟩ u8) p d x := by
  have hb : RB w g := ⟨b1, cell_of_row w _ 0 _ _ _ hr⟩
  exact RQ.set (RQ.set (RQ.set (RQ.set (RQ.set (RQ.set (RQ.set (RQ.set (RQ.set h hb 0 (.bool b0)) (hb.set0 b0) 1 u1) (RB.setI (hb.set0 b0) 1 u1 (by decide)) 2 u2) (RB.setI (RB.setI (hb.set0 b0) 1 u1 (by decide)) 2 u2 (by decide)) 3 u3) (RB.setI (RB.setI (RB.setI (hb.set0 b0) 1 u1 (by decide)) 2 u2 (by decide)) 3 u3 (by decide)) 4 u4) (RB.setI (RB.setI (RB.setI (RB.setI (hb.set0 b0) 1 u1 (by decide)) 2 u2 (by decide)) 3 u3 (by decide)) 4 u4 (by decide)) 5 u5) (RB.setI (RB.setI (RB.setI (RB.setI (RB.setI (hb.set0 b0) 1 u1 (by decide)) 2 u2 (by decide)) 3 u3 (by decide)) 4 u4 (by decide)) 5 u5 (by decide)) 6 u6) (RB.setI (RB.setI (RB.setI (RB.setI (RB.setI (RB.setI (hb.set0 b0) 1 u1 (by decide)) 2 u2 (by decide)) 3 u3 (by decide)) 4 u4 (by decide)) 5 u5 (by decide)) 6 u6 (by decide)) 7 u7) (RB.setI (RB.setI (RB.setI (RB.setI (RB.setI (RB.setI (RB.setI (hb.set0 b0) 1 u1 (by decide)) 2 u2 (by decide)) 3 u3 (by decide)) 4 u4 (by decide)) 5 u5 (by decide)) 6 u6 (by decide)) 7 u7 (by decide)) 8 u8

set_option maxRecDepth 100000 in
set_option maxHeartbeats 8000000 in
theorem r11_To (a : V3) (s : VS) (w : World) (h : RV w s a) (ha : SzV 40000000 a) :
    Calls Tryz.prog 73 #[vW (sgB a.x.num) (sgB a.y.num) (sgB a.z.num) s] w fun e w' => e = .returned (vV a) ∧ Below w.heap.size w w' := by
  have H0 := Lib.hid (fun W (hb : Below w.heap.size w W) => r3_To a.x s.x.p s.x.d W (h.x.below hb) ha.1)
  have H1 := Lib.hid (fun W (hb : Below w.heap.size w W) => r3_To a.y s.y.p s.y.d W (h.y.below hb) ha.2.1)
  have H2 := Lib.hid (fun W (hb : Below w.heap.size w W) => r3_To a.z s.z.p s.z.d W (h.z.below hb) ha.2.2)
  unfold vV
  clear h ha
  generalize rs a.x = t0 at *
  generalize sgB a.x.num = a0 at *
  generalize rs a.y = t1 at *
  generalize sgB a.y.num = a1 at *
  generalize rs a.z = t2 at *
  generalize sgB a.z.num = a2 at *
  go_enter Tryz.func73, Tryz.ntmps73
  go_upto_region 1 with fail
  generalize hW : (World.alloc w _).alloc _ = W
  obtain ⟨hB, hsz, R1, R2⟩ := A2 hW
  have R1 := Lib.hid R1
  have R2 := Lib.hid R2
  clear hW hsz
  have LR1 := fun (w' : World) (h : w'.heap[w.heap.size]? = some (.cells #[.bool a0, .slice s.x.p.A s.x.p.n s.x.p.c, .slice s.x.d.A s.x.d.n s.x.d.c, .bool a1, .slice s.y.p.A s.y.p.n s.y.p.c, .slice s.y.d.A s.y.d.n s.y.d.c, .bool a2, .slice s.z.p.A s.z.p.n s.z.p.c, .slice s.z.d.A s.z.d.n s.z.d.c] 104 (0, 0))) => rowc9 h
  have hB0 := hB.drew
  go_region_held3 (fun w' => w'.heap[w.heap.size]? = some (.cells #[.bool a0, .slice s.x.p.A s.x.p.n s.x.p.c, .slice s.x.d.A s.x.d.n s.x.d.c, .bool a1, .slice s.y.p.A s.y.p.n s.y.p.c, .slice s.y.d.A s.y.d.n s.y.d.c, .bool a2, .slice s.z.p.A s.z.p.n s.z.p.c, .slice s.z.d.A s.z.d.n s.z.d.c] 104 (0, 0))) (first | with_reducible exact R1.out | with_reducible exact oldD R1.out | with_reducible exact store3_other (by omega) R1.out _ _ _)
      (first
        | (go_at_call 44; (with_reducible refine (H0.out _ hB0).mono ?_); rintro e wq0 ⟨rfl, hb⟩; have hB1 := bstep hB0 hb; have R1 := Lib.hid (keep hb R1.out); have R2 := Lib.hid (keep hb R2.out); have R1x := R1.out; clear hb)
        | (go_at_call 44; (with_reducible refine (H1.out _ hB1).mono ?_); rintro e wq1 ⟨rfl, hb⟩; have hB2 := bstep hB1 hb; have R1 := Lib.hid (keep hb R1.out); have R2 := Lib.hid (keep hb R2.out); have R1x := R1.out; clear hb)
        | (go_at_call 44; (with_reducible refine (H2.out _ hB2).mono ?_); rintro e wq2 ⟨rfl, hb⟩; have hB3 := bstep hB2 hb; have R1 := Lib.hid (keep hb R1.out); have R2 := Lib.hid (keep hb R2.out); have R1x := R1.out; obtain ⟨R2f0, R2f1, R2f2, R2f3, R2f4, R2f5⟩ := row3 R2.out; clear hb))
  all_goals
    go_wp2_with fail
    exact bodyPost_ret (res_c rfl vec_row rfl (store3 R2.out _ _ _) rfl) rfl ⟨rfl, store3_below hB3 (by omega) _ _ _⟩


set_option maxRecDepth 100000 in
set_option maxHeartbeats 16000000 in
theorem r11_Plus (a b : V3) (s t : VS) (w : World) (hs : RV w s a) (ht : RV w t b) (ha : SzV 20000000 a) (hb : SzV 20000000 b) :
    Calls Tryz.prog 74 #[vW (sgB a.x.num) (sgB a.y.num) (sgB a.z.num) s, vW (sgB b.x.num) (sgB b.y.num) (sgB b.z.num) t] w fun e w' => ∃ u : VS, e = .returned (vW (sgB (addV a b).x.num) (sgB (addV a b).y.num) (sgB (addV a b).z.num) u) ∧ RV w' u (addV a b) ∧ Below w.heap.size w w' := by
  have H0 := Lib.hid (fun W (hb' : Below w.heap.size w W) => r3_Add a.x b.x s.x.p s.x.d t.x.p t.x.d W (hs.x.below hb') (ht.x.below hb') ha.1 hb.1)
  have H1 := Lib.hid (fun W (hb' : Below w.heap.size w W) => r3_Add a.y b.y s.y.p s.y.d t.y.p t.y.d W (hs.y.below hb') (ht.y.below hb') ha.2.1 hb.2.1)
  have H2 := Lib.hid (fun W (hb' : Below w.heap.size w W) => r3_Add a.z b.z s.z.p s.z.d t.z.p t.z.d W (hs.z.below hb') (ht.z.below hb') ha.2.2 hb.2.2)
  have HF := Lib.hid (show ∀ W (p0 d0 p1 d1 p2 d2 : Sl), RQ W p0 d0 (a.x + b.x) → RQ W p1 d1 (a.y + b.y) → RQ W p2 d2 (a.z + b.z) → RV W ⟨⟨p0, d0⟩, ⟨p1, d1⟩, ⟨p2, d2⟩⟩ (addV a b) from fun W p0 d0 p1 d1 p2 d2 h0 h1 h2 => ⟨h0, h1, h2⟩)
  rw [show (addV a b).x = a.x + b.x from rfl, show (addV a b).y = a.y + b.y from rfl, show (addV a b).z = a.z + b.z from rfl]
  clear hs ht ha hb
  generalize a.x + b.x = z0 at *
  generalize sgB z0.num = c0 at *
  generalize a.y + b.y = z1 at *
  generalize sgB z1.num = c1 at *
  generalize a.z + b.z = z2 at *
  generalize sgB z2.num = c2 at *
  generalize sgB a.x.num = a0 at *
  generalize sgB a.y.num = a1 at *
  generalize sgB a.z.num = a2 at *
  generalize sgB b.x.num = b0 at *
  generalize sgB b.y.num = b1 at *
  generalize sgB b.z.num = b2 at *
  go_enter Tryz.func74, Tryz.ntmps74
  go_upto_region 1 with fail
  generalize hW : ((World.alloc w _).alloc _).alloc _ = W
  obtain ⟨hB, hsz, R2, R3, R4⟩ := A3 hW
  have R2 := Lib.hid R2
  have R3 := Lib.hid R3
  have R4 := Lib.hid R4
  clear hW hsz
  have LR2 := fun (w' : World) (h : w'.heap[w.heap.size]? = some (.cells #[.bool a0, .slice s.x.p.A s.x.p.n s.x.p.c, .slice s.x.d.A s.x.d.n s.x.d.c, .bool a1, .slice s.y.p.A s.y.p.n s.y.p.c, .slice s.y.d.A s.y.d.n s.y.d.c, .bool a2, .slice s.z.p.A s.z.p.n s.z.p.c, .slice s.z.d.A s.z.d.n s.z.d.c] 104 (0, 0))) => rowc9 h
  have LR3 := fun (w' : World) (h : w'.heap[w.heap.size + 1]? = some (.cells #[.bool b0, .slice t.x.p.A t.x.p.n t.x.p.c, .slice t.x.d.A t.x.d.n t.x.d.c, .bool b1, .slice t.y.p.A t.y.p.n t.y.p.c, .slice t.y.d.A t.y.d.n t.y.d.c, .bool b2, .slice t.z.p.A t.z.p.n t.z.p.c, .slice t.z.d.A t.z.d.n t.z.d.c] 104 (0, 0))) => rowc9 h
  have hB0 := hB.drew
  go_region_held3 (fun w' => w'.heap[w.heap.size]? = some (.cells #[.bool a0, .slice s.x.p.A s.x.p.n s.x.p.c, .slice s.x.d.A s.x.d.n s.x.d.c, .bool a1, .slice s.y.p.A s.y.p.n s.y.p.c, .slice s.y.d.A s.y.d.n s.y.d.c, .bool a2, .slice s.z.p.A s.z.p.n s.z.p.c, .slice s.z.d.A s.z.d.n s.z.d.c] 104 (0, 0)) ∧ w'.heap[w.heap.size + 1]? = some (.cells #[.bool b0, .slice t.x.p.A t.x.p.n t.x.p.c, .slice t.x.d.A t.x.d.n t.x.d.c, .bool b1, .slice t.y.p.A t.y.p.n t.y.p.c, .slice t.y.d.A t.y.d.n t.y.d.c, .bool b2, .slice t.z.p.A t.z.p.n t.z.p.c, .slice t.z.d.A t.z.d.n t.z.d.c] 104 (0, 0))) (first | with_reducible exact ⟨R2.out, R3.out⟩ | with_reducible exact ⟨oldD R2.out, oldD R3.out⟩ | with_reducible exact ⟨store9_other (by omega) R2.out _ _ _ _ _ _ _ _ _, store9_other (by omega) R3.out _ _ _ _ _ _ _ _ _⟩)
      (first
        | (go_at_call 132; (with_reducible refine (H0.out _ hB0).mono ?_); rintro e wq0 ⟨p0, d0, rfl, hk0, hb⟩; have hB1 := bstep hB0 hb; have R2 := Lib.hid (keep hb R2.out); have R3 := Lib.hid (keep hb R3.out); have R4 := Lib.hid (keep hb R4.out); have R2x := R2.out; have R3x := R3.out; have K0 := Lib.hid hk0; clear hk0; clear hb)
        | (go_at_call 132; (with_reducible refine (H1.out _ hB1).mono ?_); rintro e wq1 ⟨p1, d1, rfl, hk1, hb⟩; have hB2 := bstep hB1 hb; have R2 := Lib.hid (keep hb R2.out); have R3 := Lib.hid (keep hb R3.out); have R4 := Lib.hid (keep hb R4.out); have R2x := R2.out; have R3x := R3.out; have K1 := Lib.hid hk1; clear hk1; have K0 := Lib.hid (K0.out.below hb); clear hb)
        | (go_at_call 132; (with_reducible refine (H2.out _ hB2).mono ?_); rintro e wq2 ⟨p2, d2, rfl, hk2, hb⟩; have hB3 := bstep hB2 hb; have R2 := Lib.hid (keep hb R2.out); have R3 := Lib.hid (keep hb R3.out); have R4 := Lib.hid (keep hb R4.out); have R2x := R2.out; have R3x := R3.out; obtain ⟨R4f0, R4f1, R4f2, R4f3, R4f4, R4f5, R4f6, R4f7, R4f8, R4f9, R4f10, R4f11, R4f12, R4f13, R4f14, R4f15, R4f16, R4f17⟩ := row9 R4.out; have K2 := Lib.hid hk2; clear hk2; have K0 := Lib.hid (K0.out.below hb); have K1 := Lib.hid (K1.out.below hb); clear hb))
  all_goals
    go_wp2_with fail
    exact bodyPost_ret (res_c rfl v_row rfl (store9 R4.out _ _ _ _ _ _ _ _ _) rfl) rfl ⟨_, rfl, (HF.out _ _ _ _ _ _ _ K0.out K1.out K2.out).store9 R4.out, store9_below hB3 (by omega) _ _ _ _ _ _ _ _ _⟩


set_option maxRecDepth 100000 in
set_option maxHeartbeats 16000000 in
theorem r11_Minus (a b : V3) (s t : VS) (w : World) (hs : RV w s a) (ht : RV w t b) (ha : SzV 20000000 a) (hb : SzV 20000000 b) :
    Calls Tryz.prog 77 #[vW (sgB a.x.num) (sgB a.y.num) (sgB a.z.num) s, vW (sgB b.x.num) (sgB b.y.num) (sgB b.z.num) t] w fun e w' => ∃ u : VS, e = .returned (vW (sgB (subV a b).x.num) (sgB (subV a b).y.num) (sgB (subV a b).z.num) u) ∧ RV w' u (subV a b) ∧ Below w.heap.size w w' := by
  have H0 := Lib.hid (fun W (hb' : Below w.heap.size w W) => r3_Sub a.x b.x s.x.p s.x.d t.x.p t.x.d W (hs.x.below hb') (ht.x.below hb') ha.1 hb.1)
  have H1 := Lib.hid (fun W (hb' : Below w.heap.size w W) => r3_Sub a.y b.y s.y.p s.y.d t.y.p t.y.d W (hs.y.below hb') (ht.y.below hb') ha.2.1 hb.2.1)
  have H2 := Lib.hid (fun W (hb' : Below w.heap.size w W) => r3_Sub a.z b.z s.z.p s.z.d t.z.p t.z.d W (hs.z.below hb') (ht.z.below hb') ha.2.2 hb.2.2)
  have HF := Lib.hid (show ∀ W (p0 d0 p1 d1 p2 d2 : Sl), RQ W p0 d0 (a.x - b.x) → RQ W p1 d1 (a.y - b.y) → RQ W p2 d2 (a.z - b.z) → RV W ⟨⟨p0, d0⟩, ⟨p1, d1⟩, ⟨p2, d2⟩⟩ (subV a b) from fun W p0 d0 p1 d1 p2 d2 h0 h1 h2 => ⟨h0, h1, h2⟩)
  rw [show (subV a b).x = a.x - b.x from rfl, show (subV a b).y = a.y - b.y from rfl, show (subV a b).z = a.z - b.z from rfl]
  clear hs ht ha hb
  generalize a.x - b.x = z0 at *
  generalize sgB z0.num = c0 at *
  generalize a.y - b.y = z1 at *
  generalize sgB z1.num = c1 at *
  generalize a.z - b.z = z2 at *
  generalize sgB z2.num = c2 at *
  generalize sgB a.x.num = a0 at *
  generalize sgB a.y.num = a1 at *
  generalize sgB a.z.num = a2 at *
  generalize sgB b.x.num = b0 at *
  generalize sgB b.y.num = b1 at *
  generalize sgB b.z.num = b2 at *
  go_enter Tryz.func77, Tryz.ntmps77
  go_upto_region 1 with fail
  generalize hW : ((World.alloc w _).alloc _).alloc _ = W
  obtain ⟨hB, hsz, R2, R3, R4⟩ := A3 hW
  have R2 := Lib.hid R2
  have R3 := Lib.hid R3
  have R4 := Lib.hid R4
  clear hW hsz
  have LR2 := fun (w' : World) (h : w'.heap[w.heap.size]? = some (.cells #[.bool a0, .slice s.x.p.A s.x.p.n s.x.p.c, .slice s.x.d.A s.x.d.n s.x.d.c, .bool a1, .slice s.y.p.A s.y.p.n s.y.p.c, .slice s.y.d.A s.y.d.n s.y.d.c, .bool a2, .slice s.z.p.A s.z.p.n s.z.p.c, .slice s.z.d.A s.z.d.n s.z.d.c] 104 (0, 0))) => rowc9 h
  have LR3 := fun (w' : World) (h : w'.heap[w.heap.size + 1]? = some (.cells #[.bool b0, .slice t.x.p.A t.x.p.n t.x.p.c, .slice t.x.d.A t.x.d.n t.x.d.c, .bool b1, .slice t.y.p.A t.y.p.n t.y.p.c, .slice t.y.d.A t.y.d.n t.y.d.c, .bool b2, .slice t.z.p.A t.z.p.n t.z.p.c, .slice t.z.d.A t.z.d.n t.z.d.c] 104 (0, 0))) => rowc9 h
  have hB0 := hB.drew
  go_region_held3 (fun w' => w'.heap[w.heap.size]? = some (.cells #[.bool a0, .slice s.x.p.A s.x.p.n s.x.p.c, .slice s.x.d.A s.x.d.n s.x.d.c, .bool a1, .slice s.y.p.A s.y.p.n s.y.p.c, .slice s.y.d.A s.y.d.n s.y.d.c, .bool a2, .slice s.z.p.A s.z.p.n s.z.p.c, .slice s.z.d.A s.z.d.n s.z.d.c] 104 (0, 0)) ∧ w'.heap[w.heap.size + 1]? = some (.cells #[.bool b0, .slice t.x.p.A t.x.p.n t.x.p.c, .slice t.x.d.A t.x.d.n t.x.d.c, .bool b1, .slice t.y.p.A t.y.p.n t.y.p.c, .slice t.y.d.A t.y.d.n t.y.d.c, .bool b2, .slice t.z.p.A t.z.p.n t.z.p.c, .slice t.z.d.A t.z.d.n t.z.d.c] 104 (0, 0))) (first | with_reducible exact ⟨R2.out, R3.out⟩ | with_reducible exact ⟨oldD R2.out, oldD R3.out⟩ | with_reducible exact ⟨store9_other (by omega) R2.out _ _ _ _ _ _ _ _ _, store9_other (by omega) R3.out _ _ _ _ _ _ _ _ _⟩)
      (first
        | (go_at_call 113; (with_reducible refine (H0.out _ hB0).mono ?_); rintro e wq0 ⟨p0, d0, rfl, hk0, hb⟩; have hB1 := bstep hB0 hb; have R2 := Lib.hid (keep hb R2.out); have R3 := Lib.hid (keep hb R3.out); have R4 := Lib.hid (keep hb R4.out); have R2x := R2.out; have R3x := R3.out; have K0 := Lib.hid hk0; clear hk0; clear hb)
        | (go_at_call 113; (with_reducible refine (H1.out _ hB1).mono ?_); rintro e wq1 ⟨p1, d1, rfl, hk1, hb⟩; have hB2 := bstep hB1 hb; have R2 := Lib.hid (keep hb R2.out); have R3 := Lib.hid (keep hb R3.out); have R4 := Lib.hid (keep hb R4.out); have R2x := R2.out; have R3x := R3.out; have K1 := Lib.hid hk1; clear hk1; have K0 := Lib.hid (K0.out.below hb); clear hb)
        | (go_at_call 113; (with_reducible refine (H2.out _ hB2).mono ?_); rintro e wq2 ⟨p2, d2, rfl, hk2, hb⟩; have hB3 := bstep hB2 hb; have R2 := Lib.hid (keep hb R2.out); have R3 := Lib.hid (keep hb R3.out); have R4 := Lib.hid (keep hb R4.out); have R2x := R2.out; have R3x := R3.out; obtain ⟨R4f0, R4f1, R4f2, R4f3, R4f4, R4f5, R4f6, R4f7, R4f8, R4f9, R4f10, R4f11, R4f12, R4f13, R4f14, R4f15, R4f16, R4f17⟩ := row9 R4.out; have K2 := Lib.hid hk2; clear hk2; have K0 := Lib.hid (K0.out.below hb); have K1 := Lib.hid (K1.out.below hb); clear hb))
  all_goals
    go_wp2_with fail
    exact bodyPost_ret (res_c rfl v_row rfl (store9 R4.out _ _ _ _ _ _ _ _ _) rfl) rfl ⟨_, rfl, (HF.out _ _ _ _ _ _ _ K0.out K1.out K2.out).store9 R4.out, store9_below hB3 (by omega) _ _ _ _ _ _ _ _ _⟩

end Go.Proofs.YtgbabmkclojgeaaGreatDoor

/- The reference of layer 11: Times, Inner, Outer, Triple. -/
namespace Go.Proofs.YtgbabmkclojgeaaGreatDoor
open Go.RowKit Go.Shelf Go.Sort

attribute [local go_sem] Oper.semAt_some

/-- The dot product as the reference reckons it. -/
def dotI (a b : V3) : Rat := a.x * b.x + (a.y * b.y + a.z * b.z)
theorem dotI_eq (a b : V3) : dotI a b = dotV a b := by unfold dotI dotV; grind
theorem sz_dotI {k : Nat} {a b : V3} (ha : SzV k a) (hb : SzV k b) : Sz (40 * k) (dotI a b) := by
  unfold dotI
  exact (sz_add (sz_mul ha.1 hb.1) (sz_add (sz_mul ha.2.1 hb.2.1) (sz_mul ha.2.2 hb.2.2))).mono (by omega)

set_option maxRecDepth 100000 in
set_option maxHeartbeats 16000000 in
theorem r11_Times (a : V3) (x : Rat) (sa : VS) (px dx : Sl) (w : World) (ha : RV w sa a) (hx : RQ w px dx x) (za : SzV 1000000 a) (zx : Sz 1000000 x) :
    Calls Tryz.prog 81 #[vW (sgB (a).x.num) (sgB (a).y.num) (sgB (a).z.num) sa, qW (sgB (x).num) px dx] w fun e w' => ∃ u : VS, e = .returned (vW (sgB (scaleV a x).x.num) (sgB (scaleV a x).y.num) (sgB (scaleV a x).z.num) u) ∧ RV w' u (scaleV a x) ∧ Below w.heap.size w w' := by
  have H0 := Lib.hid (fun W (hb' : Below w.heap.size w W) => r3_Mul a.x x sa.x.p sa.x.d px dx W (ha.x.below hb') (hx.below hb') (za.1.mono (by decide)) (zx.mono (by decide)))
  have H1 := Lib.hid (fun W (hb' : Below w.heap.size w W) => r3_Mul a.y x sa.y.p sa.y.d px dx W (ha.y.below hb') (hx.below hb') (za.2.1.mono (by decide)) (zx.mono (by decide)))
  have H2 := Lib.hid (fun W (hb' : Below w.heap.size w W) => r3_Mul a.z x sa.z.p sa.z.d px dx W (ha.z.below hb') (hx.below hb') (za.2.2.mono (by decide)) (zx.mono (by decide)))
  have HF := Lib.hid (fun W (hb' : Below w.heap.size w W) (p_0 d_0 : Sl) (k0 : RQ W p_0 d_0 (a.x * x)) (p_1 d_1 : Sl) (k1 : RQ W p_1 d_1 (a.y * x)) (p_2 d_2 : Sl) (k2 : RQ W p_2 d_2 (a.z * x)) => (show RV W ⟨⟨p_0, d_0⟩, ⟨p_1, d_1⟩, ⟨p_2, d_2⟩⟩ (scaleV a x) from ⟨k0, k1, k2⟩))
  rw [show (scaleV a x).x = a.x * x from rfl, show (scaleV a x).y = a.y * x from rfl, show (scaleV a x).z = a.z * x from rfl]
  clear ha hx za zx
  try generalize a.x * x = v_0 at *
  try generalize sgB v_0.num = c_0 at *
  try generalize a.y * x = v_1 at *
  try generalize sgB v_1.num = c_1 at *
  try generalize a.z * x = v_2 at *
  try generalize sgB v_2.num = c_2 at *
  try generalize sgB a.x.num = a0_ at *
  try generalize sgB a.y.num = a1_ at *
  try generalize sgB a.z.num = a2_ at *
  try generalize sgB x.num = x0_ at *
  go_enter Tryz.func81, Tryz.ntmps81
  go_upto_region 1 with fail
  generalize hW : ((World.alloc w _).alloc _).alloc _ = W
  obtain ⟨hB, hsz, Ra, Rx, Ro⟩ := A3 hW
  have Ra := Lib.hid Ra
  have Rx := Lib.hid Rx
  have Ro := Lib.hid Ro
  clear hW hsz
  have LRa := fun (w' : World) (h : w'.heap[w.heap.size]? = some (.cells #[.bool a0_, .slice sa.x.p.A sa.x.p.n sa.x.p.c, .slice sa.x.d.A sa.x.d.n sa.x.d.c, .bool a1_, .slice sa.y.p.A sa.y.p.n sa.y.p.c, .slice sa.y.d.A sa.y.d.n sa.y.d.c, .bool a2_, .slice sa.z.p.A sa.z.p.n sa.z.p.c, .slice sa.z.d.A sa.z.d.n sa.z.d.c] 104 (0, 0))) => rowc9 h
  have LRx := fun (w' : World) (h : w'.heap[w.heap.size + 1]? = some (.cells #[.bool x0_, .slice px.A px.n px.c, .slice dx.A dx.n dx.c] 40 (0, 0))) => rowc3 h
  have hB0 := hB.drew
  go_region_held3 (fun w' => w'.heap[w.heap.size]? = some (.cells #[.bool a0_, .slice sa.x.p.A sa.x.p.n sa.x.p.c, .slice sa.x.d.A sa.x.d.n sa.x.d.c, .bool a1_, .slice sa.y.p.A sa.y.p.n sa.y.p.c, .slice sa.y.d.A sa.y.d.n sa.y.d.c, .bool a2_, .slice sa.z.p.A sa.z.p.n sa.z.p.c, .slice sa.z.d.A sa.z.d.n sa.z.d.c] 104 (0, 0)) ∧ w'.heap[w.heap.size + 1]? = some (.cells #[.bool x0_, .slice px.A px.n px.c, .slice dx.A dx.n dx.c] 40 (0, 0))) (first | with_reducible exact ⟨Ra.out, Rx.out⟩ | with_reducible exact ⟨oldD Ra.out, oldD Rx.out⟩ | with_reducible exact ⟨store9_other (by omega) Ra.out _ _ _ _ _ _ _ _ _, store9_other (by omega) Rx.out _ _ _ _ _ _ _ _ _⟩)
      (first
        | (go_at_call 133; (with_reducible refine (H0.out _ hB0).mono ?_); rintro e wq0 ⟨p_0, d_0, rfl, hk_0, hb⟩; have hB1 := bstep hB0 hb; have Ra := Lib.hid (keep hb Ra.out); have Rx := Lib.hid (keep hb Rx.out); have Ro := Lib.hid (keep hb Ro.out); have Rax := Ra.out; have Rxx := Rx.out; have K0 := Lib.hid hk_0; clear hk_0; clear hb)
        | (go_at_call 133; (with_reducible refine (H1.out _ hB1).mono ?_); rintro e wq1 ⟨p_1, d_1, rfl, hk_1, hb⟩; have hB2 := bstep hB1 hb; have Ra := Lib.hid (keep hb Ra.out); have Rx := Lib.hid (keep hb Rx.out); have Ro := Lib.hid (keep hb Ro.out); have Rax := Ra.out; have Rxx := Rx.out; have K1 := Lib.hid hk_1; clear hk_1; have K0 := Lib.hid (K0.out.below hb); clear hb)
        | (go_at_call 133; (with_reducible refine (H2.out _ hB2).mono ?_); rintro e wq2 ⟨p_2, d_2, rfl, hk_2, hb⟩; have hB3 := bstep hB2 hb; have Ra := Lib.hid (keep hb Ra.out); have Rx := Lib.hid (keep hb Rx.out); have Ro := Lib.hid (keep hb Ro.out); have Rax := Ra.out; have Rxx := Rx.out; obtain ⟨Rof0, Rof1, Rof2, Rof3, Rof4, Rof5, Rof6, Rof7, Rof8, Rof9, Rof10, Rof11, Rof12, Rof13, Rof14, Rof15, Rof16, Rof17⟩ := row9 Ro.out; have K2 := Lib.hid hk_2; clear hk_2; have K0 := Lib.hid (K0.out.below hb); have K1 := Lib.hid (K1.out.below hb); clear hb))
  all_goals
    go_wp2_with fail
    exact bodyPost_ret (res_c rfl v_row rfl (store9 Ro.out _ _ _ _ _ _ _ _ _) rfl) rfl ⟨_, rfl, (HF.out _ hB3 _ _ K0.out _ _ K1.out _ _ K2.out).store9 Ro.out, store9_below hB3 (by omega) _ _ _ _ _ _ _ _ _⟩

set_option maxRecDepth 100000 in
set_option maxHeartbeats 16000000 in
theorem r11_Inner (a : V3) (b : V3) (sa : VS) (sb : VS) (w : World) (ha : RV w sa a) (hb : RV w sb b) (za : SzV 1000000 a) (zb : SzV 1000000 b) :
    Calls Tryz.prog 84 #[vW (sgB (a).x.num) (sgB (a).y.num) (sgB (a).z.num) sa, vW (sgB (b).x.num) (sgB (b).y.num) (sgB (b).z.num) sb] w fun e w' => ∃ p d : Sl, e = .returned (qW (sgB (dotI a b).num) p d) ∧ RQ w' p d (dotI a b) ∧ Below w.heap.size w w' := by
  unfold dotI
  have H0 := Lib.hid (fun W (hb' : Below w.heap.size w W) => r3_Mul a.x b.x sa.x.p sa.x.d sb.x.p sb.x.d W (ha.x.below hb') (hb.x.below hb') (za.1.mono (by decide)) (zb.1.mono (by decide)))
  have H1 := Lib.hid (fun W (hb' : Below w.heap.size w W) => r3_Mul a.y b.y sa.y.p sa.y.d sb.y.p sb.y.d W (ha.y.below hb') (hb.y.below hb') (za.2.1.mono (by decide)) (zb.2.1.mono (by decide)))
  have H2 := Lib.hid (fun W (hb' : Below w.heap.size w W) => r3_Mul a.z b.z sa.z.p sa.z.d sb.z.p sb.z.d W (ha.z.below hb') (hb.z.below hb') (za.2.2.mono (by decide)) (zb.2.2.mono (by decide)))
  have H3 := Lib.hid (fun W (hb' : Below w.heap.size w W) (p_1 d_1 : Sl) (k1 : RQ W p_1 d_1 (a.y * b.y)) (p_2 d_2 : Sl) (k2 : RQ W p_2 d_2 (a.z * b.z)) => r3_Add (a.y * b.y) (a.z * b.z) p_1 d_1 p_2 d_2 W k1 k2 ((sz_mul za.2.1 zb.2.1).mono (by decide)) ((sz_mul za.2.2 zb.2.2).mono (by decide)))
  have H4 := Lib.hid (fun W (hb' : Below w.heap.size w W) (p_0 d_0 : Sl) (k0 : RQ W p_0 d_0 (a.x * b.x)) (p_3 d_3 : Sl) (k3 : RQ W p_3 d_3 ((a.y * b.y) + (a.z * b.z))) => r3_Add (a.x * b.x) ((a.y * b.y) + (a.z * b.z)) p_0 d_0 p_3 d_3 W k0 k3 ((sz_mul za.1 zb.1).mono (by decide)) ((sz_add (sz_mul za.2.1 zb.2.1) (sz_mul za.2.2 zb.2.2)).mono (by decide)))
  clear ha hb za zb
  try generalize a.x * b.x = v_0 at *
  try generalize sgB v_0.num = c_0 at *
  try generalize a.y * b.y = v_1 at *
  try generalize sgB v_1.num = c_1 at *
  try generalize a.z * b.z = v_2 at *
  try generalize sgB v_2.num = c_2 at *
  try generalize v_1 + v_2 = v_3 at *
  try generalize sgB v_3.num = c_3 at *
  try generalize v_0 + v_3 = v_4 at *
  try generalize sgB v_4.num = c_4 at *
  try generalize sgB a.x.num = a0_ at *
  try generalize sgB a.y.num = a1_ at *
  try generalize sgB a.z.num = a2_ at *
  try generalize sgB b.x.num = b0_ at *
  try generalize sgB b.y.num = b1_ at *
  try generalize sgB b.z.num = b2_ at *
  go_enter Tryz.func84, Tryz.ntmps84
  go_upto_region 1 with fail
  generalize hW : ((World.alloc w _).alloc _).alloc _ = W
  obtain ⟨hB, hsz, Ra, Rb, Ro⟩ := A3 hW
  have Ra := Lib.hid Ra
  have Rb := Lib.hid Rb
  have Ro := Lib.hid Ro
  clear hW hsz
  have LRa := fun (w' : World) (h : w'.heap[w.heap.size]? = some (.cells #[.bool a0_, .slice sa.x.p.A sa.x.p.n sa.x.p.c, .slice sa.x.d.A sa.x.d.n sa.x.d.c, .bool a1_, .slice sa.y.p.A sa.y.p.n sa.y.p.c, .slice sa.y.d.A sa.y.d.n sa.y.d.c, .bool a2_, .slice sa.z.p.A sa.z.p.n sa.z.p.c, .slice sa.z.d.A sa.z.d.n sa.z.d.c] 104 (0, 0))) => rowc9 h
  have LRb := fun (w' : World) (h : w'.heap[w.heap.size + 1]? = some (.cells #[.bool b0_, .slice sb.x.p.A sb.x.p.n sb.x.p.c, .slice sb.x.d.A sb.x.d.n sb.x.d.c, .bool b1_, .slice sb.y.p.A sb.y.p.n sb.y.p.c, .slice sb.y.d.A sb.y.d.n sb.y.d.c, .bool b2_, .slice sb.z.p.A sb.z.p.n sb.z.p.c, .slice sb.z.d.A sb.z.d.n sb.z.d.c] 104 (0, 0))) => rowc9 h
  have hB0 := hB.drew
  go_region_held3 (fun w' => w'.heap[w.heap.size]? = some (.cells #[.bool a0_, .slice sa.x.p.A sa.x.p.n sa.x.p.c, .slice sa.x.d.A sa.x.d.n sa.x.d.c, .bool a1_, .slice sa.y.p.A sa.y.p.n sa.y.p.c, .slice sa.y.d.A sa.y.d.n sa.y.d.c, .bool a2_, .slice sa.z.p.A sa.z.p.n sa.z.p.c, .slice sa.z.d.A sa.z.d.n sa.z.d.c] 104 (0, 0)) ∧ w'.heap[w.heap.size + 1]? = some (.cells #[.bool b0_, .slice sb.x.p.A sb.x.p.n sb.x.p.c, .slice sb.x.d.A sb.x.d.n sb.x.d.c, .bool b1_, .slice sb.y.p.A sb.y.p.n sb.y.p.c, .slice sb.y.d.A sb.y.d.n sb.y.d.c, .bool b2_, .slice sb.z.p.A sb.z.p.n sb.z.p.c, .slice sb.z.d.A sb.z.d.n sb.z.d.c] 104 (0, 0))) (first | with_reducible exact ⟨Ra.out, Rb.out⟩ | with_reducible exact ⟨oldD Ra.out, oldD Rb.out⟩ | with_reducible exact ⟨store3_other (by omega) Ra.out _ _ _, store3_other (by omega) Rb.out _ _ _⟩)
      (first
        | (go_at_call 133; (with_reducible refine (H0.out _ hB0).mono ?_); rintro e wq0 ⟨p_0, d_0, rfl, hk_0, hb⟩; have hB1 := bstep hB0 hb; have Ra := Lib.hid (keep hb Ra.out); have Rb := Lib.hid (keep hb Rb.out); have Ro := Lib.hid (keep hb Ro.out); have Rax := Ra.out; have Rbx := Rb.out; have K0 := Lib.hid hk_0; clear hk_0; clear hb)
        | (go_at_call 133; (with_reducible refine (H1.out _ hB1).mono ?_); rintro e wq1 ⟨p_1, d_1, rfl, hk_1, hb⟩; have hB2 := bstep hB1 hb; have Ra := Lib.hid (keep hb Ra.out); have Rb := Lib.hid (keep hb Rb.out); have Ro := Lib.hid (keep hb Ro.out); have Rax := Ra.out; have Rbx := Rb.out; have K1 := Lib.hid hk_1; clear hk_1; have K0 := Lib.hid (K0.out.below hb); clear hb)
        | (go_at_call 133; (with_reducible refine (H2.out _ hB2).mono ?_); rintro e wq2 ⟨p_2, d_2, rfl, hk_2, hb⟩; have hB3 := bstep hB2 hb; have Ra := Lib.hid (keep hb Ra.out); have Rb := Lib.hid (keep hb Rb.out); have Ro := Lib.hid (keep hb Ro.out); have Rax := Ra.out; have Rbx := Rb.out; have K2 := Lib.hid hk_2; clear hk_2; have K0 := Lib.hid (K0.out.below hb); have K1 := Lib.hid (K1.out.below hb); clear hb)
        | (go_at_call 132; (with_reducible refine (H3.out _ hB3 p_1 d_1 K1.out p_2 d_2 K2.out).mono ?_); rintro e wq3 ⟨p_3, d_3, rfl, hk_3, hb⟩; have hB4 := bstep hB3 hb; have Ra := Lib.hid (keep hb Ra.out); have Rb := Lib.hid (keep hb Rb.out); have Ro := Lib.hid (keep hb Ro.out); have Rax := Ra.out; have Rbx := Rb.out; have K3 := Lib.hid hk_3; clear hk_3; have K0 := Lib.hid (K0.out.below hb); have K1 := Lib.hid (K1.out.below hb); have K2 := Lib.hid (K2.out.below hb); clear hb)
        | (go_at_call 132; (with_reducible refine (H4.out _ hB4 p_0 d_0 K0.out p_3 d_3 K3.out).mono ?_); rintro e wq4 ⟨p_4, d_4, rfl, hk_4, hb⟩; have hB5 := bstep hB4 hb; have Ra := Lib.hid (keep hb Ra.out); have Rb := Lib.hid (keep hb Rb.out); have Ro := Lib.hid (keep hb Ro.out); have Rax := Ra.out; have Rbx := Rb.out; obtain ⟨Rof0, Rof1, Rof2, Rof3, Rof4, Rof5⟩ := row3 Ro.out; have K4 := Lib.hid hk_4; clear hk_4; have K0 := Lib.hid (K0.out.below hb); have K1 := Lib.hid (K1.out.below hb); have K2 := Lib.hid (K2.out.below hb); have K3 := Lib.hid (K3.out.below hb); clear hb))
  all_goals
    go_wp2_with fail
    exact bodyPost_ret (res_c rfl q_row rfl (store3 Ro.out _ _ _) rfl) rfl ⟨_, _, rfl, K4.out.store3 Ro.out, store3_below hB5 (by omega) _ _ _⟩

set_option maxRecDepth 100000 in
set_option maxHeartbeats 16000000 in
theorem r11_Outer (a : V3) (b : V3) (sa : VS) (sb : VS) (w : World) (ha : RV w sa a) (hb : RV w sb b) (za : SzV 1000000 a) (zb : SzV 1000000 b) :
    Calls Tryz.prog 86 #[vW (sgB (a).x.num) (sgB (a).y.num) (sgB (a).z.num) sa, vW (sgB (b).x.num) (sgB (b).y.num) (sgB (b).z.num) sb] w fun e w' => ∃ u : VS, e = .returned (vW (sgB (crossV a b).x.num) (sgB (crossV a b).y.num) (sgB (crossV a b).z.num) u) ∧ RV w' u (crossV a b) ∧ Below w.heap.size w w' := by
  have H0 := Lib.hid (fun W (hb' : Below w.heap.size w W) => r3_Mul a.y b.z sa.y.p sa.y.d sb.z.p sb.z.d W (ha.y.below hb') (hb.z.below hb') (za.2.1.mono (by decide)) (zb.2.2.mono (by decide)))
  have H1 := Lib.hid (fun W (hb' : Below w.heap.size w W) => r3_Mul a.z b.y sa.z.p sa.z.d sb.y.p sb.y.d W (ha.z.below hb') (hb.y.below hb') (za.2.2.mono (by decide)) (zb.2.1.mono (by decide)))
  have H2 := Lib.hid (fun W (hb' : Below w.heap.size w W) (p_0 d_0 : Sl) (k0 : RQ W p_0 d_0 (a.y * b.z)) (p_1 d_1 : Sl) (k1 : RQ W p_1 d_1 (a.z * b.y)) => r3_Sub (a.y * b.z) (a.z * b.y) p_0 d_0 p_1 d_1 W k0 k1 ((sz_mul za.2.1 zb.2.2).mono (by decide)) ((sz_mul za.2.2 zb.2.1).mono (by decide)))
  have H3 := Lib.hid (fun W (hb' : Below w.heap.size w W) => r3_Mul a.z b.x sa.z.p sa.z.d sb.x.p sb.x.d W (ha.z.below hb') (hb.x.below hb') (za.2.2.mono (by decide)) (zb.1.mono (by decide)))
  have H4 := Lib.hid (fun W (hb' : Below w.heap.size w W) => r3_Mul a.x b.z sa.x.p sa.x.d sb.z.p sb.z.d W (ha.x.below hb') (hb.z.below hb') (za.1.mono (by decide)) (zb.2.2.mono (by decide)))
  have H5 := Lib.hid (fun W (hb' : Below w.heap.size w W) (p_3 d_3 : Sl) (k3 : RQ W p_3 d_3 (a.z * b.x)) (p_4 d_4 : Sl) (k4 : RQ W p_4 d_4 (a.x * b.z)) => r3_Sub (a.z * b.x) (a.x * b.z) p_3 d_3 p_4 d_4 W k3 k4 ((sz_mul za.2.2 zb.1).mono (by decide)) ((sz_mul za.1 zb.2.2).mono (by decide)))
  have H6 := Lib.hid (fun W (hb' : Below w.heap.size w W) => r3_Mul a.x b.y sa.x.p sa.x.d sb.y.p sb.y.d W (ha.x.below hb') (hb.y.below hb') (za.1.mono (by decide)) (zb.2.1.mono (by decide)))
  have H7 := Lib.hid (fun W (hb' : Below w.heap.size w W) => r3_Mul a.y b.x sa.y.p sa.y.d sb.x.p sb.x.d W (ha.y.below hb') (hb.x.below hb') (za.2.1.mono (by decide)) (zb.1.mono (by decide)))
  have H8 := Lib.hid (fun W (hb' : Below w.heap.size w W) (p_6 d_6 : Sl) (k6 : RQ W p_6 d_6 (a.x * b.y)) (p_7 d_7 : Sl) (k7 : RQ W p_7 d_7 (a.y * b.x)) => r3_Sub (a.x * b.y) (a.y * b.x) p_6 d_6 p_7 d_7 W k6 k7 ((sz_mul za.1 zb.2.1).mono (by decide)) ((sz_mul za.2.1 zb.1).mono (by decide)))
  have HF := Lib.hid (fun W (hb' : Below w.heap.size w W) (p_2 d_2 : Sl) (k2 : RQ W p_2 d_2 ((a.y * b.z) - (a.z * b.y))) (p_5 d_5 : Sl) (k5 : RQ W p_5 d_5 ((a.z * b.x) - (a.x * b.z))) (p_8 d_8 : Sl) (k8 : RQ W p_8 d_8 ((a.x * b.y) - (a.y * b.x))) => (show RV W ⟨⟨p_2, d_2⟩, ⟨p_5, d_5⟩, ⟨p_8, d_8⟩⟩ (crossV a b) from ⟨k2, k5, k8⟩))
  rw [show (crossV a b).x = (a.y * b.z) - (a.z * b.y) from rfl, show (crossV a b).y = (a.z * b.x) - (a.x * b.z) from rfl, show (crossV a b).z = (a.x * b.y) - (a.y * b.x) from rfl]
  clear ha hb za zb
  try generalize a.y * b.z = v_0 at *
  try generalize sgB v_0.num = c_0 at *
  try generalize a.z * b.y = v_1 at *
  try generalize sgB v_1.num = c_1 at *
  try generalize v_0 - v_1 = v_2 at *
  try generalize sgB v_2.num = c_2 at *
  try generalize a.z * b.x = v_3 at *
  try generalize sgB v_3.num = c_3 at *
  try generalize a.x * b.z = v_4 at *
  try generalize sgB v_4.num = c_4 at *
  try generalize v_3 - v_4 = v_5 at *
  try generalize sgB v_5.num = c_5 at *
  try generalize a.x * b.y = v_6 at *
  try generalize sgB v_6.num = c_6 at *
  try generalize a.y * b.x = v_7 at *
  try generalize sgB v_7.num = c_7 at *
  try generalize v_6 - v_7 = v_8 at *
  try generalize sgB v_8.num = c_8 at *
  try generalize sgB a.x.num = a0_ at *
  try generalize sgB a.y.num = a1_ at *
  try generalize sgB a.z.num = a2_ at *
  try generalize sgB b.x.num = b0_ at *
  try generalize sgB b.y.num = b1_ at *
  try generalize sgB b.z.num = b2_ at *
  go_enter Tryz.func86, Tryz.ntmps86
  go_upto_region 1 with fail
  generalize hW : ((World.alloc w _).alloc _).alloc _ = W
  obtain ⟨hB, hsz, Ra, Rb, Ro⟩ := A3 hW
  have Ra := Lib.hid Ra
  have Rb := Lib.hid Rb
  have Ro := Lib.hid Ro
  clear hW hsz
  have LRa := fun (w' : World) (h : w'.heap[w.heap.size]? = some (.cells #[.bool a0_, .slice sa.x.p.A sa.x.p.n sa.x.p.c, .slice sa.x.d.A sa.x.d.n sa.x.d.c, .bool a1_, .slice sa.y.p.A sa.y.p.n sa.y.p.c, .slice sa.y.d.A sa.y.d.n sa.y.d.c, .bool a2_, .slice sa.z.p.A sa.z.p.n sa.z.p.c, .slice sa.z.d.A sa.z.d.n sa.z.d.c] 104 (0, 0))) => rowc9 h
  have LRb := fun (w' : World) (h : w'.heap[w.heap.size + 1]? = some (.cells #[.bool b0_, .slice sb.x.p.A sb.x.p.n sb.x.p.c, .slice sb.x.d.A sb.x.d.n sb.x.d.c, .bool b1_, .slice sb.y.p.A sb.y.p.n sb.y.p.c, .slice sb.y.d.A sb.y.d.n sb.y.d.c, .bool b2_, .slice sb.z.p.A sb.z.p.n sb.z.p.c, .slice sb.z.d.A sb.z.d.n sb.z.d.c] 104 (0, 0))) => rowc9 h
  have hB0 := hB.drew
  go_region_held3 (fun w' => w'.heap[w.heap.size]? = some (.cells #[.bool a0_, .slice sa.x.p.A sa.x.p.n sa.x.p.c, .slice sa.x.d.A sa.x.d.n sa.x.d.c, .bool a1_, .slice sa.y.p.A sa.y.p.n sa.y.p.c, .slice sa.y.d.A sa.y.d.n sa.y.d.c, .bool a2_, .slice sa.z.p.A sa.z.p.n sa.z.p.c, .slice sa.z.d.A sa.z.d.n sa.z.d.c] 104 (0, 0)) ∧ w'.heap[w.heap.size + 1]? = some (.cells #[.bool b0_, .slice sb.x.p.A sb.x.p.n sb.x.p.c, .slice sb.x.d.A sb.x.d.n sb.x.d.c, .bool b1_, .slice sb.y.p.A sb.y.p.n sb.y.p.c, .slice sb.y.d.A sb.y.d.n sb.y.d.c, .bool b2_, .slice sb.z.p.A sb.z.p.n sb.z.p.c, .slice sb.z.d.A sb.z.d.n sb.z.d.c] 104 (0, 0))) (first | with_reducible exact ⟨Ra.out, Rb.out⟩ | with_reducible exact ⟨oldD Ra.out, oldD Rb.out⟩ | with_reducible exact ⟨store9_other (by omega) Ra.out _ _ _ _ _ _ _ _ _, store9_other (by omega) Rb.out _ _ _ _ _ _ _ _ _⟩)
      (first
        | (go_at_call 133; (with_reducible refine (H0.out _ hB0).mono ?_); rintro e wq0 ⟨p_0, d_0, rfl, hk_0, hb⟩; have hB1 := bstep hB0 hb; have Ra := Lib.hid (keep hb Ra.out); have Rb := Lib.hid (keep hb Rb.out); have Ro := Lib.hid (keep hb Ro.out); have Rax := Ra.out; have Rbx := Rb.out; have K0 := Lib.hid hk_0; clear hk_0; clear hb)
        | (go_at_call 133; (with_reducible refine (H1.out _ hB1).mono ?_); rintro e wq1 ⟨p_1, d_1, rfl, hk_1, hb⟩; have hB2 := bstep hB1 hb; have Ra := Lib.hid (keep hb Ra.out); have Rb := Lib.hid (keep hb Rb.out); have Ro := Lib.hid (keep hb Ro.out); have Rax := Ra.out; have Rbx := Rb.out; have K1 := Lib.hid hk_1; clear hk_1; have K0 := Lib.hid (K0.out.below hb); clear hb)
        | (go_at_call 113; (with_reducible refine (H2.out _ hB2 p_0 d_0 K0.out p_1 d_1 K1.out).mono ?_); rintro e wq2 ⟨p_2, d_2, rfl, hk_2, hb⟩; have hB3 := bstep hB2 hb; have Ra := Lib.hid (keep hb Ra.out); have Rb := Lib.hid (keep hb Rb.out); have Ro := Lib.hid (keep hb Ro.out); have Rax := Ra.out; have Rbx := Rb.out; have K2 := Lib.hid hk_2; clear hk_2; have K0 := Lib.hid (K0.out.below hb); have K1 := Lib.hid (K1.out.below hb); clear hb)
        | (go_at_call 133; (with_reducible refine (H3.out _ hB3).mono ?_); rintro e wq3 ⟨p_3, d_3, rfl, hk_3, hb⟩; have hB4 := bstep hB3 hb; have Ra := Lib.hid (keep hb Ra.out); have Rb := Lib.hid (keep hb Rb.out); have Ro := Lib.hid (keep hb Ro.out); have Rax := Ra.out; have Rbx := Rb.out; have K3 := Lib.hid hk_3; clear hk_3; have K0 := Lib.hid (K0.out.below hb); have K1 := Lib.hid (K1.out.below hb); have K2 := Lib.hid (K2.out.below hb); clear hb)
        | (go_at_call 133; (with_reducible refine (H4.out _ hB4).mono ?_); rintro e wq4 ⟨p_4, d_4, rfl, hk_4, hb⟩; have hB5 := bstep hB4 hb; have Ra := Lib.hid (keep hb Ra.out); have Rb := Lib.hid (keep hb Rb.out); have Ro := Lib.hid (keep hb Ro.out); have Rax := Ra.out; have Rbx := Rb.out; have K4 := Lib.hid hk_4; clear hk_4; have K0 := Lib.hid (K0.out.below hb); have K1 := Lib.hid (K1.out.below hb); have K2 := Lib.hid (K2.out.below hb); have K3 := Lib.hid (K3.out.below hb); clear hb)
        | (go_at_call 113; (with_reducible refine (H5.out _ hB5 p_3 d_3 K3.out p_4 d_4 K4.out).mono ?_); rintro e wq5 ⟨p_5, d_5, rfl, hk_5, hb⟩; have hB6 := bstep hB5 hb; have Ra := Lib.hid (keep hb Ra.out); have Rb := Lib.hid (keep hb Rb.out); have Ro := Lib.hid (keep hb Ro.out); have Rax := Ra.out; have Rbx := Rb.out; have K5 := Lib.hid hk_5; clear hk_5; have K0 := Lib.hid (K0.out.below hb); have K1 := Lib.hid (K1.out.below hb); have K2 := Lib.hid (K2.out.below hb); have K3 := Lib.hid (K3.out.below hb); have K4 := Lib.hid (K4.out.below hb); clear hb)
        | (go_at_call 133; (with_reducible refine (H6.out _ hB6).mono ?_); rintro e wq6 ⟨p_6, d_6, rfl, hk_6, hb⟩; have hB7 := bstep hB6 hb; have Ra := Lib.hid (keep hb Ra.out); have Rb := Lib.hid (keep hb Rb.out); have Ro := Lib.hid (keep hb Ro.out); have Rax := Ra.out; have Rbx := Rb.out; have K6 := Lib.hid hk_6; clear hk_6; have K0 := Lib.hid (K0.out.below hb); have K1 := Lib.hid (K1.out.below hb); have K2 := Lib.hid (K2.out.below hb); have K3 := Lib.hid (K3.out.below hb); have K4 := Lib.hid (K4.out.below hb); have K5 := Lib.hid (K5.out.below hb); clear hb)
        | (go_at_call 133; (with_reducible refine (H7.out _ hB7).mono ?_); rintro e wq7 ⟨p_7, d_7, rfl, hk_7, hb⟩; have hB8 := bstep hB7 hb; have Ra := Lib.hid (keep hb Ra.out); have Rb := Lib.hid (keep hb Rb.out); have Ro := Lib.hid (keep hb Ro.out); have Rax := Ra.out; have Rbx := Rb.out; have K7 := Lib.hid hk_7; clear hk_7; have K0 := Lib.hid (K0.out.below hb); have K1 := Lib.hid (K1.out.below hb); have K2 := Lib.hid (K2.out.below hb); have K3 := Lib.hid (K3.out.below hb); have K4 := Lib.hid (K4.out.below hb); have K5 := Lib.hid (K5.out.below hb); have K6 := Lib.hid (K6.out.below hb); clear hb)
        | (go_at_call 113; (with_reducible refine (H8.out _ hB8 p_6 d_6 K6.out p_7 d_7 K7.out).mono ?_); rintro e wq8 ⟨p_8, d_8, rfl, hk_8, hb⟩; have hB9 := bstep hB8 hb; have Ra := Lib.hid (keep hb Ra.out); have Rb := Lib.hid (keep hb Rb.out); have Ro := Lib.hid (keep hb Ro.out); have Rax := Ra.out; have Rbx := Rb.out; obtain ⟨Rof0, Rof1, Rof2, Rof3, Rof4, Rof5, Rof6, Rof7, Rof8, Rof9, Rof10, Rof11, Rof12, Rof13, Rof14, Rof15, Rof16, Rof17⟩ := row9 Ro.out; have K8 := Lib.hid hk_8; clear hk_8; have K0 := Lib.hid (K0.out.below hb); have K1 := Lib.hid (K1.out.below hb); have K2 := Lib.hid (K2.out.below hb); have K3 := Lib.hid (K3.out.below hb); have K4 := Lib.hid (K4.out.below hb); have K5 := Lib.hid (K5.out.below hb); have K6 := Lib.hid (K6.out.below hb); have K7 := Lib.hid (K7.out.below hb); clear hb))
  all_goals
    go_wp2_with fail
    exact bodyPost_ret (res_c rfl v_row rfl (store9 Ro.out _ _ _ _ _ _ _ _ _) rfl) rfl ⟨_, rfl, (HF.out _ hB9 _ _ K2.out _ _ K5.out _ _ K8.out).store9 Ro.out, store9_below hB9 (by omega) _ _ _ _ _ _ _ _ _⟩

set_option maxRecDepth 100000 in
set_option maxHeartbeats 16000000 in
theorem r11_Triple (a : V3) (b : V3) (c : V3) (sa : VS) (sb : VS) (sc : VS) (w : World) (ha : RV w sa a) (hb : RV w sb b) (hc : RV w sc c) (za : SzV 100000 a) (zb : SzV 100000 b) (zc : SzV 100000 c) :
    Calls Tryz.prog 87 #[vW (sgB (a).x.num) (sgB (a).y.num) (sgB (a).z.num) sa, vW (sgB (b).x.num) (sgB (b).y.num) (sgB (b).z.num) sb, vW (sgB (c).x.num) (sgB (c).y.num) (sgB (c).z.num) sc] w fun e w' => ∃ p d : Sl, e = .returned (qW (sgB (dotI a (crossV b c)).num) p d) ∧ RQ w' p d (dotI a (crossV b c)) ∧ Below w.heap.size w w' := by
  have H0 := Lib.hid (fun W (hb' : Below w.heap.size w W) => r11_Outer b c sb sc W (hb.below hb') (hc.below hb') (zb.mono (by decide)) (zc.mono (by decide)))
  have H1 := Lib.hid (fun W (hb' : Below w.heap.size w W) (u_0 : VS) (k0 : RV W u_0 (crossV b c)) => r11_Inner a (crossV b c) sa u_0 W (ha.below hb') k0 (za.mono (by decide)) ((szV_cross (show SzV 100000 b from zb) (show SzV 100000 c from zc)).mono (by decide)))
  clear ha hb hc za zb zc
  try generalize crossV b c = v_0 at *
  try generalize sgB v_0.x.num = cx_0 at *
  try generalize sgB v_0.y.num = cy_0 at *
  try generalize sgB v_0.z.num = cz_0 at *
  try generalize dotI a v_0 = v_1 at *
  try generalize sgB v_1.num = c_1 at *
  try generalize sgB a.x.num = a0_ at *
  try generalize sgB a.y.num = a1_ at *
  try generalize sgB a.z.num = a2_ at *
  try generalize sgB b.x.num = b0_ at *
  try generalize sgB b.y.num = b1_ at *
  try generalize sgB b.z.num = b2_ at *
  try generalize sgB c.x.num = c0_ at *
  try generalize sgB c.y.num = c1_ at *
  try generalize sgB c.z.num = c2_ at *
  go_enter Tryz.func87, Tryz.ntmps87
  go_upto_region 1 with fail
  generalize hW : (((World.alloc w _).alloc _).alloc _).alloc _ = W
  obtain ⟨hB, hsz, Ra, Rb, Rc, Ro⟩ := A4 hW
  have Ra := Lib.hid Ra
  have Rb := Lib.hid Rb
  have Rc := Lib.hid Rc
  have Ro := Lib.hid Ro
  clear hW hsz
  have LRa := fun (w' : World) (h : w'.heap[w.heap.size]? = some (.cells #[.bool a0_, .slice sa.x.p.A sa.x.p.n sa.x.p.c, .slice sa.x.d.A sa.x.d.n sa.x.d.c, .bool a1_, .slice sa.y.p.A sa.y.p.n sa.y.p.c, .slice sa.y.d.A sa.y.d.n sa.y.d.c, .bool a2_, .slice sa.z.p.A sa.z.p.n sa.z.p.c, .slice sa.z.d.A sa.z.d.n sa.z.d.c] 104 (0, 0))) => rowc9 h
  have LRb := fun (w' : World) (h : w'.heap[w.heap.size + 1]? = some (.cells #[.bool b0_, .slice sb.x.p.A sb.x.p.n sb.x.p.c, .slice sb.x.d.A sb.x.d.n sb.x.d.c, .bool b1_, .slice sb.y.p.A sb.y.p.n sb.y.p.c, .slice sb.y.d.A sb.y.d.n sb.y.d.c, .bool b2_, .slice sb.z.p.A sb.z.p.n sb.z.p.c, .slice sb.z.d.A sb.z.d.n sb.z.d.c] 104 (0, 0))) => rowc9 h
  have LRc := fun (w' : World) (h : w'.heap[w.heap.size + 2]? = some (.cells #[.bool c0_, .slice sc.x.p.A sc.x.p.n sc.x.p.c, .slice sc.x.d.A sc.x.d.n sc.x.d.c, .bool c1_, .slice sc.y.p.A sc.y.p.n sc.y.p.c, .slice sc.y.d.A sc.y.d.n sc.y.d.c, .bool c2_, .slice sc.z.p.A sc.z.p.n sc.z.p.c, .slice sc.z.d.A sc.z.d.n sc.z.d.c] 104 (0, 0))) => rowc9 h
  have hB0 := hB.drew
  go_region_held3 (fun w' => w'.heap[w.heap.size]? = some (.cells #[.bool a0_, .slice sa.x.p.A sa.x.p.n sa.x.p.c, .slice sa.x.d.A sa.x.d.n sa.x.d.c, .bool a1_, .slice sa.y.p.A sa.y.p.n sa.y.p.c, .slice sa.y.d.A sa.y.d.n sa.y.d.c, .bool a2_, .slice sa.z.p.A sa.z.p.n sa.z.p.c, .slice sa.z.d.A sa.z.d.n sa.z.d.c] 104 (0, 0)) ∧ w'.heap[w.heap.size + 1]? = some (.cells #[.bool b0_, .slice sb.x.p.A sb.x.p.n sb.x.p.c, .slice sb.x.d.A sb.x.d.n sb.x.d.c, .bool b1_, .slice sb.y.p.A sb.y.p.n sb.y.p.c, .slice sb.y.d.A sb.y.d.n sb.y.d.c, .bool b2_, .slice sb.z.p.A sb.z.p.n sb.z.p.c, .slice sb.z.d.A sb.z.d.n sb.z.d.c] 104 (0, 0)) ∧ w'.heap[w.heap.size + 2]? = some (.cells #[.bool c0_, .slice sc.x.p.A sc.x.p.n sc.x.p.c, .slice sc.x.d.A sc.x.d.n sc.x.d.c, .bool c1_, .slice sc.y.p.A sc.y.p.n sc.y.p.c, .slice sc.y.d.A sc.y.d.n sc.y.d.c, .bool c2_, .slice sc.z.p.A sc.z.p.n sc.z.p.c, .slice sc.z.d.A sc.z.d.n sc.z.d.c] 104 (0, 0))) (first | with_reducible exact ⟨Ra.out, Rb.out, Rc.out⟩ | with_reducible exact ⟨oldD Ra.out, oldD Rb.out, oldD Rc.out⟩ | with_reducible exact ⟨store3_other (by omega) Ra.out _ _ _, store3_other (by omega) Rb.out _ _ _, store3_other (by omega) Rc.out _ _ _⟩)
      (first
        | (go_at_call 86; (with_reducible refine (H0.out _ hB0).mono ?_); rintro e wq0 ⟨u_0, rfl, hk_0, hb⟩; have hB1 := bstep hB0 hb; have Ra := Lib.hid (keep hb Ra.out); have Rb := Lib.hid (keep hb Rb.out); have Rc := Lib.hid (keep hb Rc.out); have Ro := Lib.hid (keep hb Ro.out); have Rax := Ra.out; have Rbx := Rb.out; have Rcx := Rc.out; have K0 := Lib.hid hk_0; clear hk_0; clear hb)
        | (go_at_call 84; (with_reducible refine (H1.out _ hB1 u_0 K0.out).mono ?_); rintro e wq1 ⟨p_1, d_1, rfl, hk_1, hb⟩; have hB2 := bstep hB1 hb; have Ra := Lib.hid (keep hb Ra.out); have Rb := Lib.hid (keep hb Rb.out); have Rc := Lib.hid (keep hb Rc.out); have Ro := Lib.hid (keep hb Ro.out); have Rax := Ra.out; have Rbx := Rb.out; have Rcx := Rc.out; obtain ⟨Rof0, Rof1, Rof2, Rof3, Rof4, Rof5⟩ := row3 Ro.out; have K1 := Lib.hid hk_1; clear hk_1; have K0 := Lib.hid (K0.out.below hb); clear hb))
  all_goals
    go_wp2_with fail
    exact bodyPost_ret (res_c rfl q_row rfl (store3 Ro.out _ _ _) rfl) rfl ⟨_, _, rfl, K1.out.store3 Ro.out, store3_below hB2 (by omega) _ _ _⟩
end Go.Proofs.YtgbabmkclojgeaaGreatDoor
