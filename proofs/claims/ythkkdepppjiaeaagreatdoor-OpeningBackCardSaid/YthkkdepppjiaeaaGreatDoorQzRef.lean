/- A PART OF THE PROOF, JOINED OUT OF 3 TEXTS. -/
import Derived.Test.YthkkdepppjiaeaaGreatDoorQvAttitude
import Derived.Test.YthkkdepppjiaeaaGreatDoorQoApart
import Derived.Test.YthkkdepppjiaeaaGreatDoorPnLaw
import Derived.Test.YthkkdepppjiaeaaGreatDoorQxMirrors
/- The reference of layer 16: Less, Out, Plus, Times, Turned, Returned. -/
namespace Go.Proofs.YthkkdepppjiaeaaGreatDoor
open Go.RowKit Go.Shelf Go.Sort

attribute [local go_sem] Oper.semAt_some

def turnW (a s u r : V3) : V3 := ⟨dotV a r, dotV s r, dotV u r⟩

theorem rowc27 {W : World} {g : Nat} {v0 v1 v2 v3 v4 v5 v6 v7 v8 v9 v10 v11 v12 v13 v14 v15 v16 v17 v18 v19 v20 v21 v22 v23 v24 v25 v26 : Value} {t : TypeId} (h : W.heap[g]? = some (.cells #[v0, v1, v2, v3, v4, v5, v6, v7, v8, v9, v10, v11, v12, v13, v14, v15, v16, v17, v18, v19, v20, v21, v22, v23, v24, v25, v26] t (0, 0))) : W.cell? ⟨g, 0, none⟩ = some v0 ∧ W.cell? ⟨g, 1, none⟩ = some v1 ∧ W.cell? ⟨g, 2, none⟩ = some v2 ∧ W.cell? ⟨g, 3, none⟩ = some v3 ∧ W.cell? ⟨g, 4, none⟩ = some v4 ∧ W.cell? ⟨g, 5, none⟩ = some v5 ∧ W.cell? ⟨g, 6, none⟩ = some v6 ∧ W.cell? ⟨g, 7, none⟩ = some v7 ∧ W.cell? ⟨g, 8, none⟩ = some v8 ∧ W.cell? ⟨g, 9, none⟩ = some v9 ∧ W.cell? ⟨g, 10, none⟩ = some v10 ∧ W.cell? ⟨g, 11, none⟩ = some v11 ∧ W.cell? ⟨g, 12, none⟩ = some v12 ∧ W.cell? ⟨g, 13, none⟩ = some v13 ∧ W.cell? ⟨g, 14, none⟩ = some v14 ∧ W.cell? ⟨g, 15, none⟩ = some v15 ∧ W.cell? ⟨g, 16, none⟩ = some v16 ∧ W.cell? ⟨g, 17, none⟩ = some v17 ∧ W.cell? ⟨g, 18, none⟩ = some v18 ∧ W.cell? ⟨g, 19, none⟩ = some v19 ∧ W.cell? ⟨g, 20, none⟩ = some v20 ∧ W.cell? ⟨g, 21, none⟩ = some v21 ∧ W.cell? ⟨g, 22, none⟩ = some v22 ∧ W.cell? ⟨g, 23, none⟩ = some v23 ∧ W.cell? ⟨g, 24, none⟩ = some v24 ∧ W.cell? ⟨g, 25, none⟩ = some v25 ∧ W.cell? ⟨g, 26, none⟩ = some v26 :=
  ⟨cell_of_row W _ 0 _ _ _ h, cell_of_row W _ 1 _ _ _ h, cell_of_row W _ 2 _ _ _ h, cell_of_row W _ 3 _ _ _ h, cell_of_row W _ 4 _ _ _ h, cell_of_row W _ 5 _ _ _ h, cell_of_row W _ 6 _ _ _ h, cell_of_row W _ 7 _ _ _ h, cell_of_row W _ 8 _ _ _ h, cell_of_row W _ 9 _ _ _ h, cell_of_row W _ 10 _ _ _ h, cell_of_row W _ 11 _ _ _ h, cell_of_row W _ 12 _ _ _ h, cell_of_row W _ 13 _ _ _ h, cell_of_row W _ 14 _ _ _ h, cell_of_row W _ 15 _ _ _ h, cell_of_row W _ 16 _ _ _ h, cell_of_row W _ 17 _ _ _ h, cell_of_row W _ 18 _ _ _ h, cell_of_row W _ 19 _ _ _ h, cell_of_row W _ 20 _ _ _ h, cell_of_row W _ 21 _ _ _ h, cell_of_row W _ 22 _ _ _ h, cell_of_row W _ 23 _ _ _ h, cell_of_row W _ 24 _ _ _ h, cell_of_row W _ 25 _ _ _ h, cell_of_row W _ 26 _ _ _ h⟩
set_option maxRecDepth 100000 in
set_option maxHeartbeats 16000000 in
theorem r16_Turned (fF : V3) (fS : V3) (fU : V3) (r : V3) (sfF : VS) (sfS : VS) (sfU : VS) (sr : VS) (w : World) (hfF : RV w sfF fF) (hfS : RV w sfS fS) (hfU : RV w sfU fU) (hr : RV w sr r) (zfF : SzV 1000000 fF) (zfS : SzV 1000000 fS) (zfU : SzV 1000000 fU) (zr : SzV 1000000 r) :
    Calls Tryz.prog 128 #[.agg #[.bool (sgB (fF).x.num), .slice sfF.x.p.A sfF.x.p.n sfF.x.p.c, .slice sfF.x.d.A sfF.x.d.n sfF.x.d.c, .bool (sgB (fF).y.num), .slice sfF.y.p.A sfF.y.p.n sfF.y.p.c, .slice sfF.y.d.A sfF.y.d.n sfF.y.d.c, .bool (sgB (fF).z.num), .slice sfF.z.p.A sfF.z.p.n sfF.z.p.c, .slice sfF.z.d.A sfF.z.d.n sfF.z.d.c, .bool (sgB (fS).x.num), .slice sfS.x.p.A sfS.x.p.n sfS.x.p.c, .slice sfS.x.d.A sfS.x.d.n sfS.x.d.c, .bool (sgB (fS).y.num), .slice sfS.y.p.A sfS.y.p.n sfS.y.p.c, .slice sfS.y.d.A sfS.y.d.n sfS.y.d.c, .bool (sgB (fS).z.num), .slice sfS.z.p.A sfS.z.p.n sfS.z.p.c, .slice sfS.z.d.A sfS.z.d.n sfS.z.d.c, .bool (sgB (fU).x.num), .slice sfU.x.p.A sfU.x.p.n sfU.x.p.c, .slice sfU.x.d.A sfU.x.d.n sfU.x.d.c, .bool (sgB (fU).y.num), .slice sfU.y.p.A sfU.y.p.n sfU.y.p.c, .slice sfU.y.d.A sfU.y.d.n sfU.y.d.c, .bool (sgB (fU).z.num), .slice sfU.z.p.A sfU.z.p.n sfU.z.p.c, .slice sfU.z.d.A sfU.z.d.n sfU.z.d.c], .agg #[.bool (sgB (r).x.num), .slice sr.x.p.A sr.x.p.n sr.x.p.c, .slice sr.x.d.A sr.x.d.n sr.x.d.c, .bool (sgB (r).y.num), .slice sr.y.p.A sr.y.p.n sr.y.p.c, .slice sr.y.d.A sr.y.d.n sr.y.d.c, .bool (sgB (r).z.num), .slice sr.z.p.A sr.z.p.n sr.z.p.c, .slice sr.z.d.A sr.z.d.n sr.z.d.c]] w fun e w' => ∃ u : VS, e = .returned (vW (sgB (turnW fF fS fU r).x.num) (sgB (turnW fF fS fU r).y.num) (sgB (turnW fF fS fU r).z.num) u) ∧ RV w' u (turnW fF fS fU r) ∧ Below w.heap.size w w' := by
  have H0 := Lib.hid (fun W (hb' : Below w.heap.size w W) => r16_Dot fF r sfF sr W (hfF.below hb') (hr.below hb') zfF zr)
  have H1 := Lib.hid (fun W (hb' : Below w.heap.size w W) => r16_Dot fS r sfS sr W (hfS.below hb') (hr.below hb') zfS zr)
  have H2 := Lib.hid (fun W (hb' : Below w.heap.size w W) => r16_Dot fU r sfU sr W (hfU.below hb') (hr.below hb') zfU zr)
  have HF := Lib.hid (fun W (hb' : Below w.heap.size w W) (p_0 d_0 : Sl) (k0 : RQ W p_0 d_0 (dotV fF r)) (p_1 d_1 : Sl) (k1 : RQ W p_1 d_1 (dotV fS r)) (p_2 d_2 : Sl) (k2 : RQ W p_2 d_2 (dotV fU r)) => (show RV W ⟨⟨p_0, d_0⟩, ⟨p_1, d_1⟩, ⟨p_2, d_2⟩⟩ (turnW fF fS fU r) from ⟨k0, k1, k2⟩))
  rw [show (turnW fF fS fU r).x = dotV fF r from rfl, show (turnW fF fS fU r).y = dotV fS r from rfl, show (turnW fF fS fU r).z = dotV fU r from rfl]
  clear hfF hfS hfU hr zfF zfS zfU zr
  try generalize dotV fF r = v_0 at *
  try generalize sgB v_0.num = c_0 at *
  try generalize dotV fS r = v_1 at *
  try generalize sgB v_1.num = c_1 at *
  try generalize dotV fU r = v_2 at *
  try generalize sgB v_2.num = c_2 at *
  try generalize sgB fF.x.num = fF0_ at *
  try generalize sgB fF.y.num = fF1_ at *
  try generalize sgB fF.z.num = fF2_ at *
  try generalize sgB fS.x.num = fS0_ at *
  try generalize sgB fS.y.num = fS1_ at *
  try generalize sgB fS.z.num = fS2_ at *
  try generalize sgB fU.x.num = fU0_ at *
  try generalize sgB fU.y.num = fU1_ at *
  try generalize sgB fU.z.num = fU2_ at *
  try generalize sgB r.x.num = r0_ at *
  try generalize sgB r.y.num = r1_ at *
  try generalize sgB r.z.num = r2_ at *
  go_enter Tryz.func128, Tryz.ntmps128
  go_upto_region 1 with fail
  generalize hW : ((World.alloc w _).alloc _).alloc _ = W
  obtain ⟨hB, hsz, Rf, Rr, Ro⟩ := A3 hW
  have Rf := Lib.hid Rf
  have Rr := Lib.hid Rr
  have Ro := Lib.hid Ro
  clear hW hsz
  have LRf := fun (w' : World) (h : w'.heap[w.heap.size]? = some (.cells #[.bool fF0_, .slice sfF.x.p.A sfF.x.p.n sfF.x.p.c, .slice sfF.x.d.A sfF.x.d.n sfF.x.d.c, .bool fF1_, .slice sfF.y.p.A sfF.y.p.n sfF.y.p.c, .slice sfF.y.d.A sfF.y.d.n sfF.y.d.c, .bool fF2_, .slice sfF.z.p.A sfF.z.p.n sfF.z.p.c, .slice sfF.z.d.A sfF.z.d.n sfF.z.d.c, .bool fS0_, .slice sfS.x.p.A sfS.x.p.n sfS.x.p.c, .slice sfS.x.d.A sfS.x.d.n sfS.x.d.c, .bool fS1_, .slice sfS.y.p.A sfS.y.p.n sfS.y.p.c, .slice sfS.y.d.A sfS.y.d.n sfS.y.d.c, .bool fS2_, .slice sfS.z.p.A sfS.z.p.n sfS.z.p.c, .slice sfS.z.d.A sfS.z.d.n sfS.z.d.c, .bool fU0_, .slice sfU.x.p.A sfU.x.p.n sfU.x.p.c, .slice sfU.x.d.A sfU.x.d.n sfU.x.d.c, .bool fU1_, .slice sfU.y.p.A sfU.y.p.n sfU.y.p.c, .slice sfU.y.d.A sfU.y.d.n sfU.y.d.c, .bool fU2_, .slice sfU.z.p.A sfU.z.p.n sfU.z.p.c, .slice sfU.z.d.A sfU.z.d.n sfU.z.d.c] 125 (0, 0))) => rowc27 h
  have LRr := fun (w' : World) (h : w'.heap[w.heap.size + 1]? = some (.cells #[.bool r0_, .slice sr.x.p.A sr.x.p.n sr.x.p.c, .slice sr.x.d.A sr.x.d.n sr.x.d.c, .bool r1_, .slice sr.y.p.A sr.y.p.n sr.y.p.c, .slice sr.y.d.A sr.y.d.n sr.y.d.c, .bool r2_, .slice sr.z.p.A sr.z.p.n sr.z.p.c, .slice sr.z.d.A sr.z.d.n sr.z.d.c] 116 (0, 0))) => rowc9 h
  have hB0 := hB.drew
  first
  | go_region_held3 (fun w' => w'.heap[w.heap.size]? = some (.cells #[.bool fF0_, .slice sfF.x.p.A sfF.x.p.n sfF.x.p.c, .slice sfF.x.d.A sfF.x.d.n sfF.x.d.c, .bool fF1_, .slice sfF.y.p.A sfF.y.p.n sfF.y.p.c, .slice sfF.y.d.A sfF.y.d.n sfF.y.d.c, .bool fF2_, .slice sfF.z.p.A sfF.z.p.n sfF.z.p.c, .slice sfF.z.d.A sfF.z.d.n sfF.z.d.c, .bool fS0_, .slice sfS.x.p.A sfS.x.p.n sfS.x.p.c, .slice sfS.x.d.A sfS.x.d.n sfS.x.d.c, .bool fS1_, .slice sfS.y.p.A sfS.y.p.n sfS.y.p.c, .slice sfS.y.d.A sfS.y.d.n sfS.y.d.c, .bool fS2_, .slice sfS.z.p.A sfS.z.p.n sfS.z.p.c, .slice sfS.z.d.A sfS.z.d.n sfS.z.d.c, .bool fU0_, .slice sfU.x.p.A sfU.x.p.n sfU.x.p.c, .slice sfU.x.d.A sfU.x.d.n sfU.x.d.c, .bool fU1_, .slice sfU.y.p.A sfU.y.p.n sfU.y.p.c, .slice sfU.y.d.A sfU.y.d.n sfU.y.d.c, .bool fU2_, .slice sfU.z.p.A sfU.z.p.n sfU.z.p.c, .slice sfU.z.d.A sfU.z.d.n sfU.z.d.c] 125 (0, 0)) ∧ w'.heap[w.heap.size + 1]? = some (.cells #[.bool r0_, .slice sr.x.p.A sr.x.p.n sr.x.p.c, .slice sr.x.d.A sr.x.d.n sr.x.d.c, .bool r1_, .slice sr.y.p.A sr.y.p.n sr.y.p.c, .slice sr.y.d.A sr.y.d.n sr.y.d.c, .bool r2_, .slice sr.z.p.A sr.z.p.n sr.z.p.c, .slice sr.z.d.A sr.z.d.n sr.z.d.c] 116 (0, 0))) (first | with_reducible exact ⟨Rf.out, Rr.out⟩ | with_reducible exact ⟨oldD Rf.out, oldD Rr.out⟩ | with_reducible exact ⟨store9_other (by omega) Rf.out _ _ _ _ _ _ _ _ _, store9_other (by omega) Rr.out _ _ _ _ _ _ _ _ _⟩)
      (first
        | (go_at_call 109; (with_reducible refine (H0.out _ hB0).mono ?_); rintro e wq0 ⟨p_0, d_0, rfl, hk_0, hb⟩; have hB1 := bstep hB0 hb; have Rf := Lib.hid (keep hb Rf.out); have Rr := Lib.hid (keep hb Rr.out); have Ro := Lib.hid (keep hb Ro.out); have Rfx := Rf.out; have Rrx := Rr.out; have K0 := Lib.hid hk_0; clear hk_0; clear hb)
        | (go_at_call 109; (with_reducible refine (H1.out _ hB1).mono ?_); rintro e wq1 ⟨p_1, d_1, rfl, hk_1, hb⟩; have hB2 := bstep hB1 hb; have Rf := Lib.hid (keep hb Rf.out); have Rr := Lib.hid (keep hb Rr.out); have Ro := Lib.hid (keep hb Ro.out); have Rfx := Rf.out; have Rrx := Rr.out; have K1 := Lib.hid hk_1; clear hk_1; have K0 := Lib.hid (K0.out.below hb); clear hb)
        | (go_at_call 109; (with_reducible refine (H2.out _ hB2).mono ?_); rintro e wq2 ⟨p_2, d_2, rfl, hk_2, hb⟩; have hB3 := bstep hB2 hb; have Rf := Lib.hid (keep hb Rf.out); have Rr := Lib.hid (keep hb Rr.out); have Ro := Lib.hid (keep hb Ro.out); have Rfx := Rf.out; have Rrx := Rr.out; obtain ⟨Rof0, Rof1, Rof2, Rof3, Rof4, Rof5, Rof6, Rof7, Rof8, Rof9, Rof10, Rof11, Rof12, Rof13, Rof14, Rof15, Rof16, Rof17⟩ := row9 Ro.out; have K2 := Lib.hid hk_2; clear hk_2; have K0 := Lib.hid (K0.out.below hb); have K1 := Lib.hid (K1.out.below hb); clear hb))
  | fail
  all_goals
    go_wp2_with fail
    exact bodyPost_ret (res_c rfl v16_row rfl (store9 Ro.out _ _ _ _ _ _ _ _ _) rfl) rfl ⟨_, rfl, (HF.out _ hB3 _ _ K0.out _ _ K1.out _ _ K2.out).store9 Ro.out, store9_below hB3 (by omega) _ _ _ _ _ _ _ _ _⟩

set_option maxRecDepth 100000 in
set_option maxHeartbeats 4000000 in
theorem r16_Less (x y : Rat) (p d s t : Sl) (w : World) (hx : RQ w p d x) (hy : RQ w s t y) (zx : Sz 20000000 x) (zy : Sz 20000000 y) :
    Calls Tryz.prog 146 #[qW (sgB x.num) p d, qW (sgB y.num) s t] w fun e w' => e = .returned (.bool (decide (cmpQ x y < 0))) ∧ Below w.heap.size w w' := by
  have H0 := Lib.hid (fun W (hb : Below w.heap.size w W) => r3_Cmp x y p d s t W (hx.below hb) (hy.below hb) zx zy)
  clear hx hy zx zy
  generalize cmpQ x y = z at *
  generalize sgB x.num = b1 at *
  generalize sgB y.num = b2 at *
  go_enter Tryz.func146, Tryz.ntmps146
  go_upto_region 1 with fail
  generalize hW : (World.alloc w _).alloc _ = W
  obtain ⟨hB, hsz, R1, R2⟩ := A2 hW
  have R1 := Lib.hid R1
  have R2 := Lib.hid R2
  clear hW hsz
  obtain ⟨R1c0, R1c1, R1c2, R1f0, R1f1, R1f2⟩ := row3 R1.out
  obtain ⟨R2c0, R2c1, R2c2, R2f0, R2f1, R2f2⟩ := row3 R2.out
  go_wp2_with fail
  clear R1c0 R1c1 R1c2 R1f0 R1f1 R1f2
  clear R2c0 R2c1 R2c2 R2f0 R2f1 R2f2
  refine (H0.out _ hB).mono ?_
  rintro e w1 ⟨rfl, hb⟩
  replace hB := bstep hB hb
  clear hb
  go_wp2_with fail
  go_ret
  exact ⟨rfl, hB⟩
end Go.Proofs.YthkkdepppjiaeaaGreatDoor

/- The reference of layer 16: Round, outside. -/
namespace Go.Proofs.YthkkdepppjiaeaaGreatDoor
open Go.RowKit Go.Shelf Go.Sort

attribute [local go_sem] Oper.semAt_some

theorem size_setQ (w : World) (p : Addr) (v : Value) : (w.setCell p v).heap.size = w.heap.size := by simp [World.setCell]
theorem eA {V Y : World} {a b d e : Value} {g h : Bool} {t : TypeId} (hv : Below V.heap.size V Y) : ((Y.alloc (.cells #[.bool g, a, b] t (0, 0))).alloc (.cells #[.bool h, d, e] t (0, 0))).heap[Y.heap.size]? = some (.cells #[.bool g, a, b] t (0, 0)) ∧ ((Y.alloc (.cells #[.bool g, a, b] t (0, 0))).alloc (.cells #[.bool h, d, e] t (0, 0))).heap[Y.heap.size + 1]? = some (.cells #[.bool h, d, e] t (0, 0)) ∧
    Below V.heap.size V ((Y.alloc (.cells #[.bool g, a, b] t (0, 0))).alloc (.cells #[.bool h, d, e] t (0, 0))) ∧ ∀ p d' x, RQ Y p d' x → RQ ((Y.alloc (.cells #[.bool g, a, b] t (0, 0))).alloc (.cells #[.bool h, d, e] t (0, 0))) p d' x :=
  ⟨two_row, two_row', bstep (bstep hv (A1 rfl).1) (A1 rfl).1, fun _ _ _ k => (k.below (A1 rfl).1).below (A1 rfl).1⟩
theorem eB {V Y : World} {r : Nat} {x0 : Bool} {x1 x2 : Value} {t : TypeId} (hv : Below V.heap.size V Y) (hr : Y.heap[r]? = some (.cells #[.bool x0, x1, x2] t (0, 0))) (hle : V.heap.size ≤ r) (a : Bool) (b c : Value) (v : Obj) :
    ((((Y.setCell ⟨r, 0, none⟩ (.bool a)).setCell ⟨r, 1, none⟩ b).setCell ⟨r, 2, none⟩ c).alloc v).heap[r]? = some (.cells #[.bool a, b, c] t (0, 0)) ∧ ((((Y.setCell ⟨r, 0, none⟩ (.bool a)).setCell ⟨r, 1, none⟩ b).setCell ⟨r, 2, none⟩ c).alloc v).heap[Y.heap.size]? = some v ∧
    Below V.heap.size V ((((Y.setCell ⟨r, 0, none⟩ (.bool a)).setCell ⟨r, 1, none⟩ b).setCell ⟨r, 2, none⟩ c).alloc v) ∧ ∀ p d x, RQ Y p d x → RQ ((((Y.setCell ⟨r, 0, none⟩ (.bool a)).setCell ⟨r, 1, none⟩ b).setCell ⟨r, 2, none⟩ c).alloc v) p d x := by
  refine ⟨old1 (store3 hr _ _ _), ?_, bstep (store3_below hv hle _ _ _) (A1 rfl).1, fun _ _ _ k => (k.store3 hr).below (A1 rfl).1⟩
  have h := heap_alloc_new (((Y.setCell ⟨r, 0, none⟩ (.bool a)).setCell ⟨r, 1, none⟩ b).setCell ⟨r, 2, none⟩ c) v
  rwa [size_setQ, size_setQ, size_setQ] at h
theorem eC {V Y : World} {r k : Nat} {x0 y0 : Bool} {x1 x2 y1 y2 : Value} {t t' : TypeId} (hv : Below V.heap.size V Y) (hr : Y.heap[r]? = some (.cells #[.bool x0, x1, x2] t (0, 0))) (hk : Y.heap[k]? = some (.cells #[.bool y0, y1, y2] t' (0, 0))) (hle : V.heap.size ≤ r) (hle' : V.heap.size ≤ k) (hne : r ≠ k) (a d : Bool) (b c e f : Value) :
    ((((((Y.setCell ⟨r, 0, none⟩ (.bool a)).setCell ⟨r, 1, none⟩ b).setCell ⟨r, 2, none⟩ c).setCell ⟨k, 0, none⟩ (.bool d)).setCell ⟨k, 1, none⟩ e).setCell ⟨k, 2, none⟩ f).heap[r]? = some (.cells #[.bool a, b, c] t (0, 0)) ∧ ((((((Y.setCell ⟨r, 0, none⟩ (.bool a)).setCell ⟨r, 1, none⟩ b).setCell ⟨r, 2, none⟩ c).setCell ⟨k, 0, none⟩ (.bool d)).setCell ⟨k, 1, none⟩ e).setCell ⟨k, 2, none⟩ f).heap[k]? = some (.cells #[.bool d, e, f] t' (0, 0)) ∧
    Below V.heap.size V ((((((Y.setCell ⟨r, 0, none⟩ (.bool a)).setCell ⟨r, 1, none⟩ b).setCell ⟨r, 2, none⟩ c).setCell ⟨k, 0, none⟩ (.bool d)).setCell ⟨k, 1, none⟩ e).setCell ⟨k, 2, none⟩ f) ∧ ∀ p d' x, RQ Y p d' x → RQ ((((((Y.setCell ⟨r, 0, none⟩ (.bool a)).setCell ⟨r, 1, none⟩ b).setCell ⟨r, 2, none⟩ c).setCell ⟨k, 0, none⟩ (.bool d)).setCell ⟨k, 1, none⟩ e).setCell ⟨k, 2, none⟩ f) p d' x := by
  have h1 := store3 hr (.bool a) b c
  have h2 := store3_other (Ne.symm hne) hk (.bool a) b c
  exact ⟨store3_other hne h1 _ _ _, store3 h2 _ _ _, store3_below (store3_below hv hle _ _ _) hle' _ _ _, fun _ _ _ q => (q.store3 hr).store3 h2⟩


set_option maxRecDepth 100000 in
set_option maxHeartbeats 4000000 in
theorem r16_Round (x : Rat) (p d : Sl) (w : World) (hx : RQ w p d x) (zx : Sz 1000 x) :
    Calls Tryz.prog 115 #[qW (sgB x.num) p d] w fun e w' => ∃ p1 d1 p2 d2 : Sl, e = .returned (.tuple #[qW (sgB (cosQ x).num) p1 d1, qW (sgB (sinQ x).num) p2 d2]) ∧ RQ w' p1 d1 (cosQ x) ∧ RQ w' p2 d2 (sinQ x) ∧ Below w.heap.size w w' := by
  have h0 := fun W => r16_N ⟨#[49]⟩ W (by decide)
  rw [show rvX ⟨#[49]⟩ = 1 by rw [← lit_1, rvX_rs]] at h0
  have H0 := Lib.hid h0
  have zq := sz_mul zx zx
  have zw := sz_add sz_one zq
  have zs := sz_sub sz_one zq
  have zd := sz_add zx zx
  have H1 := Lib.hid (fun W (hb : Below w.heap.size w W) => r3_Mul x x p d p d W (hx.below hb) (hx.below hb) (zx.mono (by decide)) (zx.mono (by decide)))
  have H2 := Lib.hid (fun W p1 d1 p2 d2 (k1 : RQ W p1 d1 1) (k2 : RQ W p2 d2 (x * x)) => r3_Add 1 (x * x) p1 d1 p2 d2 W k1 k2 (sz_one.mono (by decide)) (zq.mono (by decide)))
  have H3 := Lib.hid (fun W p1 d1 p2 d2 (k1 : RQ W p1 d1 1) (k2 : RQ W p2 d2 (x * x)) => r3_Sub 1 (x * x) p1 d1 p2 d2 W k1 k2 (sz_one.mono (by decide)) (zq.mono (by decide)))
  have H4 := Lib.hid (fun W p1 d1 p2 d2 (k1 : RQ W p1 d1 (1 - x * x)) (k2 : RQ W p2 d2 (1 + x * x)) => r3_Div (1 - x * x) (1 + x * x) p1 d1 p2 d2 W k1 k2 (zs.mono (by decide)) (zw.mono (by decide)) (one_sq_ne x))
  have H5 := Lib.hid (fun W (hb : Below w.heap.size w W) => r3_Add x x p d p d W (hx.below hb) (hx.below hb) (zx.mono (by decide)) (zx.mono (by decide)))
  have h6 := fun W p1 d1 p2 d2 (k1 : RQ W p1 d1 (x + x)) (k2 : RQ W p2 d2 (1 + x * x)) => r3_Div (x + x) (1 + x * x) p1 d1 p2 d2 W k1 k2 (zd.mono (by decide)) (zw.mono (by decide)) (one_sq_ne x)
  rw [sin_two] at h6
  have H6 := Lib.hid h6
  rw [show (1 - x * x) / (1 + x * x) = cosQ x from rfl] at H4
  clear h0 h6 zq zw zs zd zx hx
  generalize cosQ x = c at *
  generalize sinQ x = s at *
  generalize x * x = h at *
  generalize 1 + h = k at *
  generalize 1 - h = r at *
  generalize x + x = y at *
  generalize (1 : Rat) = g at *
  generalize sgB c.num = c0_ at *
  generalize sgB s.num = s0_ at *
  generalize sgB g.num = g0_ at *
  generalize sgB h.num = h0_ at *
  generalize sgB k.num = k0_ at *
  generalize sgB r.num = r0_ at *
  generalize sgB y.num = y0_ at *
  generalize sgB x.num = x0_ at *
  go_enter Tryz.func115, Tryz.ntmps115
  go_upto_region 1 with fail
  generalize hW : ((World.alloc w _).alloc _).alloc _ = W
  obtain ⟨hB, hsz, R1, R2, R3⟩ := A3 hW
  have R1 := Lib.hid R1
  have R2 := Lib.hid R2
  have R3 := Lib.hid R3
  clear hW hsz
  go_cut [4, 5] (fun x y wc => ∃ (i j : Nat) (p1 d1 p2 d2 : Sl), x = .pointer (some ⟨i, 0, none⟩) ∧ y = .pointer (some ⟨j, 0, none⟩) ∧ Hid (wc.heap[i]? = some (.cells #[.bool g0_, .slice p1.A p1.n p1.c, .slice d1.A d1.n d1.c] 45 (0, 0))) ∧ Hid (wc.heap[j]? = some (.cells #[.bool h0_, .slice p2.A p2.n p2.c, .slice d2.A d2.n d2.c] 45 (0, 0))) ∧ Hid (RQ wc p1 d1 g) ∧ Hid (RQ wc p2 d2 h) ∧ Hid (Below W.heap.size W wc) ∧ Hid (W.heap.size ≤ i) ∧ Hid (W.heap.size ≤ j))
  case first =>
    have LR1 := fun (w' : World) (h : Ap W.heap.size W.heap.size W w') => rowc3 (h.rowV R1.out)
    have U0 := fun (Y : World) (o' : Obj) => (row3 (two_row (Y := Y) (o := .cells #[.bool false, .slice none 0 0, .slice none 0 0] 45 (0, 0)) (o' := o'))).1
    have U1 := fun (Y : World) (o' : Obj) => (row3 (two_row (Y := Y) (o := .cells #[.bool false, .slice none 0 0, .slice none 0 0] 45 (0, 0)) (o' := o'))).2.1
    have U2 := fun (Y : World) (o' : Obj) => (row3 (two_row (Y := Y) (o := .cells #[.bool false, .slice none 0 0, .slice none 0 0] 45 (0, 0)) (o' := o'))).2.2.1
    have U3 := fun (Y : World) (o' : Obj) => (row3 (two_row (Y := Y) (o := .cells #[.bool false, .slice none 0 0, .slice none 0 0] 45 (0, 0)) (o' := o'))).2.2.2.1
    have U4 := fun (Y : World) (o' : Obj) => (row3 (two_row (Y := Y) (o := .cells #[.bool false, .slice none 0 0, .slice none 0 0] 45 (0, 0)) (o' := o'))).2.2.2.2.1
    have U5 := fun (Y : World) (o' : Obj) => (row3 (two_row (Y := Y) (o := .cells #[.bool false, .slice none 0 0, .slice none 0 0] 45 (0, 0)) (o' := o'))).2.2.2.2.2
    have Ub0 := fun (Y : World) (o' : Obj) => (row3 (two_row' (Y := Y) (o := o') (o' := .cells #[.bool false, .slice none 0 0, .slice none 0 0] 45 (0, 0)))).1
    have Ub1 := fun (Y : World) (o' : Obj) => (row3 (two_row' (Y := Y) (o := o') (o' := .cells #[.bool false, .slice none 0 0, .slice none 0 0] 45 (0, 0)))).2.1
    have Ub2 := fun (Y : World) (o' : Obj) => (row3 (two_row' (Y := Y) (o := o') (o' := .cells #[.bool false, .slice none 0 0, .slice none 0 0] 45 (0, 0)))).2.2.1
    have Ub3 := fun (Y : World) (o' : Obj) => (row3 (two_row' (Y := Y) (o := o') (o' := .cells #[.bool false, .slice none 0 0, .slice none 0 0] 45 (0, 0)))).2.2.2.1
    have Ub4 := fun (Y : World) (o' : Obj) => (row3 (two_row' (Y := Y) (o := o') (o' := .cells #[.bool false, .slice none 0 0, .slice none 0 0] 45 (0, 0)))).2.2.2.2.1
    have Ub5 := fun (Y : World) (o' : Obj) => (row3 (two_row' (Y := Y) (o := o') (o' := .cells #[.bool false, .slice none 0 0, .slice none 0 0] 45 (0, 0)))).2.2.2.2.2
    have hvr := Below.refl W.heap.size W
    have hv0 := hvr.drew
    first
    | go_region_held3 (fun w' => Ap W.heap.size W.heap.size W w') (first | (with_reducible assumption) | (with_reducible exact Ap.refl _ _ _) | ((repeat (first | with_reducible assumption | with_reducible exact Ap.refl _ _ _ | with_reducible refine Ap.drew ?_ | with_reducible refine Ap.alloc ?_ | with_reducible refine Ap.set1 ?_ | with_reducible refine Ap.set2 ?_ | with_reducible refine Ap.setN (by first | with_reducible assumption | with_reducible exact Nat.le_refl _ | with_reducible exact Nat.le_add_right _ _ | with_reducible exact Nat.le_trans (by assumption) (Nat.le_add_right _ _)) ?_)); done))
        (first
          | (go_at_call 114; (with_reducible refine (H0.out _ ).mono ?_); rintro e wq0 ⟨p_0, d_0, rfl, hk_0, hb⟩; have hv1 : Below W.heap.size W wq0 := (by first | with_reducible exact bstep (hv0) hb | with_reducible exact bstep (bstep hv0 (A1 rfl).1) hb | with_reducible exact bstep ((bstep hv0 (A1 rfl).1).drew) hb | with_reducible exact bstep ((bstep hvr (A1 rfl).1).drew) hb | with_reducible exact bstep (bstep (bstep hv0 (A1 rfl).1) (A1 rfl).1) hb | with_reducible exact bstep ((bstep (bstep hv0 (A1 rfl).1) (A1 rfl).1).drew) hb | with_reducible exact bstep ((bstep (bstep hvr (A1 rfl).1) (A1 rfl).1).drew) hb); have hs1 := Ap.of_below (g := W.heap.size) (h := W.heap.size) hv1; have sz1 := hv1.size; (first | ((first | (have RNp := two_new hb) | (have RNp := two_newD hb)); have RN0 : RowKit.Hid (wq0.heap[W.heap.size]? = some (.cells #[.bool false, .slice none 0 0, .slice none 0 0] 45 (0, 0))) := Lib.hid RNp.1; have RN0' : RowKit.Hid (wq0.heap[W.heap.size + 1]? = some (.cells #[.bool false, .slice none 0 0, .slice none 0 0] 45 (0, 0))) := Lib.hid RNp.2; clear RNp) | (have RN0 : RowKit.Hid (wq0.heap[W.heap.size]? = some (.cells #[.bool false, .slice none 0 0, .slice none 0 0] 45 (0, 0))) := Lib.hid (by first | exact one_new hb | exact one_newD hb)) | skip); (first | (have RNg := lt_of_row RN0.out; have RNh := Nat.ne_of_lt RNg; have RNi := Nat.ne_of_gt RNg) | skip); have K0 := Lib.hid hk_0; clear hk_0; clear hb)
          | (go_at_call 69; (with_reducible refine (H1.out _ (bstep hB (by first | with_reducible exact hv1 | with_reducible exact bstep hv1 (A1 rfl).1 | with_reducible exact (bstep hv1 (A1 rfl).1).drew | with_reducible exact (bstep hvr (A1 rfl).1).drew | with_reducible exact bstep (bstep hv1 (A1 rfl).1) (A1 rfl).1 | with_reducible exact (bstep (bstep hv1 (A1 rfl).1) (A1 rfl).1).drew | with_reducible exact (bstep (bstep hvr (A1 rfl).1) (A1 rfl).1).drew))).mono ?_); rintro e wq1 ⟨p_1, d_1, rfl, hk_1, hb⟩; have hv2 : Below W.heap.size W wq1 := (by first | with_reducible exact bstep (hv1) hb | with_reducible exact bstep (bstep hv1 (A1 rfl).1) hb | with_reducible exact bstep ((bstep hv1 (A1 rfl).1).drew) hb | with_reducible exact bstep ((bstep hvr (A1 rfl).1).drew) hb | with_reducible exact bstep (bstep (bstep hv1 (A1 rfl).1) (A1 rfl).1) hb | with_reducible exact bstep ((bstep (bstep hv1 (A1 rfl).1) (A1 rfl).1).drew) hb | with_reducible exact bstep ((bstep (bstep hvr (A1 rfl).1) (A1 rfl).1).drew) hb); have hs2 := Ap.of_below (g := W.heap.size) (h := W.heap.size) hv2; have sz2 := hv2.size; have K0 := Lib.hid (by first | with_reducible exact K0.out.below hb | with_reducible exact (K0.out.below (Below.drew (Below.refl _ _))).below hb | with_reducible exact (K0.out.below (A1 rfl).1).below hb | with_reducible exact ((K0.out.below (A1 rfl).1).below (Below.drew (Below.refl _ _))).below hb | with_reducible exact ((K0.out.below (A1 rfl).1).below (A1 rfl).1).below hb); (first | (with_reducible have RN0 := Lib.hid (keep hb RN0.out)) | (with_reducible have RN0 := Lib.hid (keep hb (old1 RN0.out))) | (with_reducible have RN0 := Lib.hid (keep hb (old1 (old1 RN0.out)))) | skip); (first | (with_reducible have RN0' := Lib.hid (keep hb RN0'.out)) | (with_reducible have RN0' := Lib.hid (keep hb (old1 RN0'.out))) | (with_reducible have RN0' := Lib.hid (keep hb (old1 (old1 RN0'.out)))) | skip); (first | ((first | (have RNp := two_new hb) | (have RNp := two_newD hb)); have RN1 : RowKit.Hid (wq1.heap[wq0.heap.size]? = some (.cells #[.bool false, .slice none 0 0, .slice none 0 0] 45 (0, 0))) := Lib.hid RNp.1; have RN1' : RowKit.Hid (wq1.heap[wq0.heap.size + 1]? = some (.cells #[.bool false, .slice none 0 0, .slice none 0 0] 45 (0, 0))) := Lib.hid RNp.2; clear RNp) | (have RN1 : RowKit.Hid (wq1.heap[wq0.heap.size]? = some (.cells #[.bool false, .slice none 0 0, .slice none 0 0] 45 (0, 0))) := Lib.hid (by first | exact one_new hb | exact one_newD hb)) | skip); (first | (have RNg := lt_of_row RN1.out; have RNh := Nat.ne_of_lt RNg; have RNi := Nat.ne_of_gt RNg) | skip); have K1 := Lib.hid hk_1; clear hk_1; (first | (have RNx := row3 RN0.out; obtain ⟨RNf00, RNf01, RNf02, RNf03, RNf04, RNf05⟩ := RNx) | skip); (first | (have RNy := fun o' => row3 (old1 (o' := o') RN0.out); have RNl := lt_of_row RN0.out; have RNm := Nat.ne_of_lt RNl; have RNn := Nat.ne_of_gt RNl; have RNf0A0 := fun o' => (RNy o').1; have RNf0A1 := fun o' => (RNy o').2.1; have RNf0A2 := fun o' => (RNy o').2.2.1; have RNf0A3 := fun o' => (RNy o').2.2.2.1; have RNf0A4 := fun o' => (RNy o').2.2.2.2.1; have RNf0A5 := fun o' => (RNy o').2.2.2.2.2; clear RNy) | skip); (first | (have RNx := row3 RN0'.out; obtain ⟨RNf0_0, RNf0_1, RNf0_2, RNf0_3, RNf0_4, RNf0_5⟩ := RNx) | skip); (first | (have RNy := fun o' => row3 (old1 (o' := o') RN0'.out); have RNl := lt_of_row RN0'.out; have RNm := Nat.ne_of_lt RNl; have RNn := Nat.ne_of_gt RNl; have RNf0_A0 := fun o' => (RNy o').1; have RNf0_A1 := fun o' => (RNy o').2.1; have RNf0_A2 := fun o' => (RNy o').2.2.1; have RNf0_A3 := fun o' => (RNy o').2.2.2.1; have RNf0_A4 := fun o' => (RNy o').2.2.2.2.1; have RNf0_A5 := fun o' => (RNy o').2.2.2.2.2; clear RNy) | skip); (first | (have RNx := row3 RN1.out; obtain ⟨RNf10, RNf11, RNf12, RNf13, RNf14, RNf15⟩ := RNx) | skip); (first | (have RNy := fun o' => row3 (old1 (o' := o') RN1.out); have RNl := lt_of_row RN1.out; have RNm := Nat.ne_of_lt RNl; have RNn := Nat.ne_of_gt RNl; have RNf1A0 := fun o' => (RNy o').1; have RNf1A1 := fun o' => (RNy o').2.1; have RNf1A2 := fun o' => (RNy o').2.2.1; have RNf1A3 := fun o' => (RNy o').2.2.2.1; have RNf1A4 := fun o' => (RNy o').2.2.2.2.1; have RNf1A5 := fun o' => (RNy o').2.2.2.2.2; clear RNy) | skip); (first | (have RNx := row3 RN1'.out; obtain ⟨RNf1_0, RNf1_1, RNf1_2, RNf1_3, RNf1_4, RNf1_5⟩ := RNx) | skip); (first | (have RNy := fun o' => row3 (old1 (o' := o') RN1'.out); have RNl := lt_of_row RN1'.out; have RNm := Nat.ne_of_lt RNl; have RNn := Nat.ne_of_gt RNl; have RNf1_A0 := fun o' => (RNy o').1; have RNf1_A1 := fun o' => (RNy o').2.1; have RNf1_A2 := fun o' => (RNy o').2.2.1; have RNf1_A3 := fun o' => (RNy o').2.2.2.1; have RNf1_A4 := fun o' => (RNy o').2.2.2.2.1; have RNf1_A5 := fun o' => (RNy o').2.2.2.2.2; clear RNy) | skip); (first | (have RNe := Nat.ne_of_lt (lt_of_row RN0.out); skip) | skip); clear hb))
    | fail
    all_goals
      go_wp2_with fail
      go_meet
      first
      | (have E := eA (Y := wq1) (g := g0_) (a := (.slice p_0.A p_0.n p_0.c)) (b := (.slice d_0.A d_0.n d_0.c)) (h := h0_) (d := (.slice p_1.A p_1.n p_1.c)) (e := (.slice d_1.A d_1.n d_1.c)) (t := 45) hv2; with_reducible exact ⟨_, _, p_0, d_0, p_1, d_1, rfl, rfl, Lib.hid E.1, Lib.hid E.2.1, Lib.hid (E.2.2.2 _ _ _ K0.out), Lib.hid (E.2.2.2 _ _ _ K1.out), Lib.hid E.2.2.1, Lib.hid (by omega), Lib.hid (by omega)⟩)
      | (have E := eA (Y := wq1) (g := h0_) (a := (.slice p_1.A p_1.n p_1.c)) (b := (.slice d_1.A d_1.n d_1.c)) (h := g0_) (d := (.slice p_0.A p_0.n p_0.c)) (e := (.slice d_0.A d_0.n d_0.c)) (t := 45) hv2; with_reducible exact ⟨_, _, p_0, d_0, p_1, d_1, rfl, rfl, Lib.hid E.2.1, Lib.hid E.1, Lib.hid (E.2.2.2 _ _ _ K0.out), Lib.hid (E.2.2.2 _ _ _ K1.out), Lib.hid E.2.2.1, Lib.hid (by omega), Lib.hid (by omega)⟩)
      | (have E := eB hv2 RN0.out (by first | exact Nat.le_refl _ | assumption | exact Nat.le_add_right _ _ | exact Nat.le_trans (by assumption) (Nat.le_add_right _ _)) g0_ (.slice p_0.A p_0.n p_0.c) (.slice d_0.A d_0.n d_0.c) (.cells #[.bool h0_, .slice p_1.A p_1.n p_1.c, .slice d_1.A d_1.n d_1.c] 45 (0, 0)); with_reducible exact ⟨_, _, p_0, d_0, p_1, d_1, rfl, rfl, Lib.hid E.1, Lib.hid E.2.1, Lib.hid (E.2.2.2 _ _ _ K0.out), Lib.hid (E.2.2.2 _ _ _ K1.out), Lib.hid E.2.2.1, Lib.hid (by omega), Lib.hid (by omega)⟩)
      | (have E := eB hv2 RN0.out (by first | exact Nat.le_refl _ | assumption | exact Nat.le_add_right _ _ | exact Nat.le_trans (by assumption) (Nat.le_add_right _ _)) h0_ (.slice p_1.A p_1.n p_1.c) (.slice d_1.A d_1.n d_1.c) (.cells #[.bool g0_, .slice p_0.A p_0.n p_0.c, .slice d_0.A d_0.n d_0.c] 45 (0, 0)); with_reducible exact ⟨_, _, p_0, d_0, p_1, d_1, rfl, rfl, Lib.hid E.2.1, Lib.hid E.1, Lib.hid (E.2.2.2 _ _ _ K0.out), Lib.hid (E.2.2.2 _ _ _ K1.out), Lib.hid E.2.2.1, Lib.hid (by omega), Lib.hid (by omega)⟩)
      | (have E := eB hv2 RN1.out (by first | exact Nat.le_refl _ | assumption | exact Nat.le_add_right _ _ | exact Nat.le_trans (by assumption) (Nat.le_add_right _ _)) g0_ (.slice p_0.A p_0.n p_0.c) (.slice d_0.A d_0.n d_0.c) (.cells #[.bool h0_, .slice p_1.A p_1.n p_1.c, .slice d_1.A d_1.n d_1.c] 45 (0, 0)); with_reducible exact ⟨_, _, p_0, d_0, p_1, d_1, rfl, rfl, Lib.hid E.1, Lib.hid E.2.1, Lib.hid (E.2.2.2 _ _ _ K0.out), Lib.hid (E.2.2.2 _ _ _ K1.out), Lib.hid E.2.2.1, Lib.hid (by omega), Lib.hid (by omega)⟩)
      | (have E := eB hv2 RN1.out (by first | exact Nat.le_refl _ | assumption | exact Nat.le_add_right _ _ | exact Nat.le_trans (by assumption) (Nat.le_add_right _ _)) h0_ (.slice p_1.A p_1.n p_1.c) (.slice d_1.A d_1.n d_1.c) (.cells #[.bool g0_, .slice p_0.A p_0.n p_0.c, .slice d_0.A d_0.n d_0.c] 45 (0, 0)); with_reducible exact ⟨_, _, p_0, d_0, p_1, d_1, rfl, rfl, Lib.hid E.2.1, Lib.hid E.1, Lib.hid (E.2.2.2 _ _ _ K0.out), Lib.hid (E.2.2.2 _ _ _ K1.out), Lib.hid E.2.2.1, Lib.hid (by omega), Lib.hid (by omega)⟩)
      | (have E := eC hv2 RN0.out RN1.out (by first | exact Nat.le_refl _ | assumption | exact Nat.le_add_right _ _ | exact Nat.le_trans (by assumption) (Nat.le_add_right _ _)) (by first | exact Nat.le_refl _ | assumption | exact Nat.le_add_right _ _ | exact Nat.le_trans (by assumption) (Nat.le_add_right _ _)) (by omega) g0_ h0_ (.slice p_0.A p_0.n p_0.c) (.slice d_0.A d_0.n d_0.c) (.slice p_1.A p_1.n p_1.c) (.slice d_1.A d_1.n d_1.c); with_reducible exact ⟨_, _, p_0, d_0, p_1, d_1, rfl, rfl, Lib.hid E.1, Lib.hid E.2.1, Lib.hid (E.2.2.2 _ _ _ K0.out), Lib.hid (E.2.2.2 _ _ _ K1.out), Lib.hid E.2.2.1, Lib.hid (by omega), Lib.hid (by omega)⟩)
      | (have E := eC hv2 RN1.out RN0.out (by first | exact Nat.le_refl _ | assumption | exact Nat.le_add_right _ _ | exact Nat.le_trans (by assumption) (Nat.le_add_right _ _)) (by first | exact Nat.le_refl _ | assumption | exact Nat.le_add_right _ _ | exact Nat.le_trans (by assumption) (Nat.le_add_right _ _)) (by omega) g0_ h0_ (.slice p_0.A p_0.n p_0.c) (.slice d_0.A d_0.n d_0.c) (.slice p_1.A p_1.n p_1.c) (.slice d_1.A d_1.n d_1.c); with_reducible exact ⟨_, _, p_0, d_0, p_1, d_1, rfl, rfl, Lib.hid E.1, Lib.hid E.2.1, Lib.hid (E.2.2.2 _ _ _ K0.out), Lib.hid (E.2.2.2 _ _ _ K1.out), Lib.hid E.2.2.1, Lib.hid (by omega), Lib.hid (by omega)⟩)
      | (have E := eC hv2 RN0.out RN0'.out (by first | exact Nat.le_refl _ | assumption | exact Nat.le_add_right _ _ | exact Nat.le_trans (by assumption) (Nat.le_add_right _ _)) (by first | exact Nat.le_refl _ | assumption | exact Nat.le_add_right _ _ | exact Nat.le_trans (by assumption) (Nat.le_add_right _ _)) (by omega) g0_ h0_ (.slice p_0.A p_0.n p_0.c) (.slice d_0.A d_0.n d_0.c) (.slice p_1.A p_1.n p_1.c) (.slice d_1.A d_1.n d_1.c); with_reducible exact ⟨_, _, p_0, d_0, p_1, d_1, rfl, rfl, Lib.hid E.1, Lib.hid E.2.1, Lib.hid (E.2.2.2 _ _ _ K0.out), Lib.hid (E.2.2.2 _ _ _ K1.out), Lib.hid E.2.2.1, Lib.hid (by omega), Lib.hid (by omega)⟩)
      | (have E := eC hv2 RN0'.out RN0.out (by first | exact Nat.le_refl _ | assumption | exact Nat.le_add_right _ _ | exact Nat.le_trans (by assumption) (Nat.le_add_right _ _)) (by first | exact Nat.le_refl _ | assumption | exact Nat.le_add_right _ _ | exact Nat.le_trans (by assumption) (Nat.le_add_right _ _)) (by omega) g0_ h0_ (.slice p_0.A p_0.n p_0.c) (.slice d_0.A d_0.n d_0.c) (.slice p_1.A p_1.n p_1.c) (.slice d_1.A d_1.n d_1.c); with_reducible exact ⟨_, _, p_0, d_0, p_1, d_1, rfl, rfl, Lib.hid E.1, Lib.hid E.2.1, Lib.hid (E.2.2.2 _ _ _ K0.out), Lib.hid (E.2.2.2 _ _ _ K1.out), Lib.hid E.2.2.1, Lib.hid (by omega), Lib.hid (by omega)⟩)
      | (have E := eC hv2 RN1.out RN1'.out (by first | exact Nat.le_refl _ | assumption | exact Nat.le_add_right _ _ | exact Nat.le_trans (by assumption) (Nat.le_add_right _ _)) (by first | exact Nat.le_refl _ | assumption | exact Nat.le_add_right _ _ | exact Nat.le_trans (by assumption) (Nat.le_add_right _ _)) (by omega) g0_ h0_ (.slice p_0.A p_0.n p_0.c) (.slice d_0.A d_0.n d_0.c) (.slice p_1.A p_1.n p_1.c) (.slice d_1.A d_1.n d_1.c); with_reducible exact ⟨_, _, p_0, d_0, p_1, d_1, rfl, rfl, Lib.hid E.1, Lib.hid E.2.1, Lib.hid (E.2.2.2 _ _ _ K0.out), Lib.hid (E.2.2.2 _ _ _ K1.out), Lib.hid E.2.2.1, Lib.hid (by omega), Lib.hid (by omega)⟩)
      | (have E := eC hv2 RN1'.out RN1.out (by first | exact Nat.le_refl _ | assumption | exact Nat.le_add_right _ _ | exact Nat.le_trans (by assumption) (Nat.le_add_right _ _)) (by first | exact Nat.le_refl _ | assumption | exact Nat.le_add_right _ _ | exact Nat.le_trans (by assumption) (Nat.le_add_right _ _)) (by omega) g0_ h0_ (.slice p_0.A p_0.n p_0.c) (.slice d_0.A d_0.n d_0.c) (.slice p_1.A p_1.n p_1.c) (.slice d_1.A d_1.n d_1.c); with_reducible exact ⟨_, _, p_0, d_0, p_1, d_1, rfl, rfl, Lib.hid E.1, Lib.hid E.2.1, Lib.hid (E.2.2.2 _ _ _ K0.out), Lib.hid (E.2.2.2 _ _ _ K1.out), Lib.hid E.2.2.1, Lib.hid (by omega), Lib.hid (by omega)⟩)
  case rest =>
    obtain ⟨i, j, p1, d1, p2, d2, rfl, rfl, Ri, Rj, K1, K2, hbw, li, lj⟩ := hcut
    have hb := hbw.out
    have lr := lt_of_row R3.out
    have Mi := Lib.hid (show i ≠ w.heap.size + 1 by have := li.out; omega)
    have Mi2 := Lib.hid (show i ≠ w.heap.size + 2 by have := li.out; omega)
    have Mj := Lib.hid (show j ≠ w.heap.size + 1 by have := lj.out; omega)
    have Mj2 := Lib.hid (show j ≠ w.heap.size + 2 by have := lj.out; omega)
    have R1 := Lib.hid (keep hb R1.out)
    have R2 := Lib.hid (keep hb R2.out)
    have R3 := Lib.hid (keep hb R3.out)
    replace hB := bstep hB hb
    clear hb hbw lr li lj
    obtain ⟨a0, a1, a2, a3, a4, a5⟩ := row3 Ri.out
    obtain ⟨b0, b1, b2, b3, b4, b5⟩ := row3 Rj.out
    go_wp2_with fail
    clear a0 a1 a2 a3 a4 a5 b0 b1 b2 b3 b4 b5
    refine (H2.out _ _ _ _ _ K1.out K2.out).mono ?_
    rintro e w2 ⟨p3, d3, rfl, h3, hb⟩
    replace hB := bstep hB hb
    have R1 := Lib.hid (keep hb R1.out)
    have R2 := Lib.hid (keep hb R2.out)
    have R3 := Lib.hid (keep hb R3.out)
    have Ri := Lib.hid (keep hb Ri.out)
    have Rj := Lib.hid (keep hb Rj.out)
    have K1 := Lib.hid (K1.out.below hb)
    have K2 := Lib.hid (K2.out.below hb)
    have K3 := Lib.hid h3
    clear h3
    clear hb
    have lr := lt_of_row R3.out
    have Mk := Lib.hid (show w2.heap.size ≠ w.heap.size + 1 by omega)
    have Mk2 := Lib.hid (show w2.heap.size ≠ w.heap.size + 2 by omega)
    clear lr
    go_upto_region 3 with fail
    generalize hW : World.alloc _ _ = V3
    obtain ⟨hb, hsz, Rk⟩ := A1 hW
    replace hB := bstep hB hb
    have R1 := Lib.hid (keep hb R1.out)
    have R2 := Lib.hid (keep hb R2.out)
    have R3 := Lib.hid (keep hb R3.out)
    have Ri := Lib.hid (keep hb Ri.out)
    have Rj := Lib.hid (keep hb Rj.out)
    have K1 := Lib.hid (K1.out.below hb)
    have K2 := Lib.hid (K2.out.below hb)
    have K3 := Lib.hid (K3.out.below hb)
    clear hb
    have Rk := Lib.hid Rk
    clear hW hsz
    have LR1 := fun (w' : World) (h : Ap (w.heap.size + 1) (w.heap.size + 2) V3 w') => rowc3 (h.row R1.out (by omega) (by omega))
    have LRi := fun (w' : World) (h : Ap (w.heap.size + 1) (w.heap.size + 2) V3 w') => rowc3 (h.row Ri.out Mi.out Mi2.out)
    have LRj := fun (w' : World) (h : Ap (w.heap.size + 1) (w.heap.size + 2) V3 w') => rowc3 (h.row Rj.out Mj.out Mj2.out)
    have LRk := fun (w' : World) (h : Ap (w.heap.size + 1) (w.heap.size + 2) V3 w') => rowc3 (h.row Rk.out Mk.out Mk2.out)
    have hvr := Below.refl V3.heap.size V3
    have hv0 := hvr.drew
    first
    | go_region_held3 (fun w' => Ap (w.heap.size + 1) (w.heap.size + 2) V3 w') (first | (with_reducible assumption) | (with_reducible exact Ap.refl _ _ _) | ((repeat (first | with_reducible assumption | with_reducible exact Ap.refl _ _ _ | with_reducible refine Ap.drew ?_ | with_reducible refine Ap.alloc ?_ | with_reducible refine Ap.set1 ?_ | with_reducible refine Ap.set2 ?_ | with_reducible refine Ap.setN (by first | with_reducible assumption | with_reducible exact Nat.le_refl _ | with_reducible exact Nat.le_add_right _ _ | with_reducible exact Nat.le_trans (by assumption) (Nat.le_add_right _ _)) ?_)); done))
        (first
          | (go_at_call 23; (with_reducible refine (H3.out _  p1 d1 p2 d2 (by first | with_reducible exact K1.out | with_reducible exact (K1.out.below (Below.drew (Below.refl _ _)))) (by first | with_reducible exact K2.out | with_reducible exact (K2.out.below (Below.drew (Below.refl _ _))))).mono ?_); rintro e wq0 ⟨p_0, d_0, rfl, hk_0, hb⟩; have hv1 : Below V3.heap.size V3 wq0 := (by first | with_reducible exact bstep (hv0) hb); have hs1 := Ap.of_below (g := w.heap.size + 1) (h := w.heap.size + 2) hv1; have sz1 := hv1.size; have K1 := Lib.hid (by first | with_reducible exact K1.out.below hb | with_reducible exact (K1.out.below (Below.drew (Below.refl _ _))).below hb); have K2 := Lib.hid (by first | with_reducible exact K2.out.below hb | with_reducible exact (K2.out.below (Below.drew (Below.refl _ _))).below hb); have K3 := Lib.hid (by first | with_reducible exact K3.out.below hb | with_reducible exact (K3.out.below (Below.drew (Below.refl _ _))).below hb); have L0 := Lib.hid hk_0; clear hk_0; clear hb)
          | (go_at_call 147; (with_reducible refine (H4.out _  p_0 d_0 p3 d3 (by first | with_reducible exact L0.out | with_reducible exact (L0.out.below (Below.drew (Below.refl _ _)))) (by first | with_reducible exact K3.out | with_reducible exact (K3.out.below (Below.drew (Below.refl _ _))))).mono ?_); rintro e wq1 ⟨p_1, d_1, rfl, hk_1, hb⟩; have hv2 : Below V3.heap.size V3 wq1 := (by first | with_reducible exact bstep (hv1) hb); have hs2 := Ap.of_below (g := w.heap.size + 1) (h := w.heap.size + 2) hv2; have sz2 := hv2.size; have K1 := Lib.hid (by first | with_reducible exact K1.out.below hb | with_reducible exact (K1.out.below (Below.drew (Below.refl _ _))).below hb); have K2 := Lib.hid (by first | with_reducible exact K2.out.below hb | with_reducible exact (K2.out.below (Below.drew (Below.refl _ _))).below hb); have K3 := Lib.hid (by first | with_reducible exact K3.out.below hb | with_reducible exact (K3.out.below (Below.drew (Below.refl _ _))).below hb); have L0 := Lib.hid (by first | with_reducible exact L0.out.below hb | with_reducible exact (L0.out.below (Below.drew (Below.refl _ _))).below hb); have L1 := Lib.hid hk_1; clear hk_1; clear hb)
          | (go_at_call 22; (with_reducible refine (H5.out _ (bstep hB (by first | with_reducible exact hv2))).mono ?_); rintro e wq2 ⟨p_2, d_2, rfl, hk_2, hb⟩; have hv3 : Below V3.heap.size V3 wq2 := (by first | with_reducible exact bstep (hv2) hb); have hs3 := Ap.of_below (g := w.heap.size + 1) (h := w.heap.size + 2) hv3; have sz3 := hv3.size; have K1 := Lib.hid (by first | with_reducible exact K1.out.below hb | with_reducible exact (K1.out.below (Below.drew (Below.refl _ _))).below hb); have K2 := Lib.hid (by first | with_reducible exact K2.out.below hb | with_reducible exact (K2.out.below (Below.drew (Below.refl _ _))).below hb); have K3 := Lib.hid (by first | with_reducible exact K3.out.below hb | with_reducible exact (K3.out.below (Below.drew (Below.refl _ _))).below hb); have L0 := Lib.hid (by first | with_reducible exact L0.out.below hb | with_reducible exact (L0.out.below (Below.drew (Below.refl _ _))).below hb); have L1 := Lib.hid (by first | with_reducible exact L1.out.below hb | with_reducible exact (L1.out.below (Below.drew (Below.refl _ _))).below hb); have L2 := Lib.hid hk_2; clear hk_2; clear hb)
          | (go_at_call 147; (with_reducible refine (H6.out _  p_2 d_2 p3 d3 (by first | with_reducible exact L2.out | with_reducible exact (L2.out.below (Below.drew (Below.refl _ _)))) (by first | with_reducible exact K3.out | with_reducible exact (K3.out.below (Below.drew (Below.refl _ _))))).mono ?_); rintro e wq3 ⟨p_3, d_3, rfl, hk_3, hb⟩; have hv4 : Below V3.heap.size V3 wq3 := (by first | with_reducible exact bstep (hv3) hb); have hs4 := Ap.of_below (g := w.heap.size + 1) (h := w.heap.size + 2) hv4; have sz4 := hv4.size; have K1 := Lib.hid (by first | with_reducible exact K1.out.below hb | with_reducible exact (K1.out.below (Below.drew (Below.refl _ _))).below hb); have K2 := Lib.hid (by first | with_reducible exact K2.out.below hb | with_reducible exact (K2.out.below (Below.drew (Below.refl _ _))).below hb); have K3 := Lib.hid (by first | with_reducible exact K3.out.below hb | with_reducible exact (K3.out.below (Below.drew (Below.refl _ _))).below hb); have L0 := Lib.hid (by first | with_reducible exact L0.out.below hb | with_reducible exact (L0.out.below (Below.drew (Below.refl _ _))).below hb); have L1 := Lib.hid (by first | with_reducible exact L1.out.below hb | with_reducible exact (L1.out.below (Below.drew (Below.refl _ _))).below hb); have L2 := Lib.hid (by first | with_reducible exact L2.out.below hb | with_reducible exact (L2.out.below (Below.drew (Below.refl _ _))).below hb); have RoX2 := keep hv4 R2.out; obtain ⟨a0, a1, a2, a3, a4, a5⟩ := row3 RoX2; have RoX3 := keep hv4 R3.out; obtain ⟨b0, b1, b2, b3, b4, b5⟩ := row3 RoX3; have L3 := Lib.hid hk_3; clear hk_3; clear hb))
    | fail
    all_goals
      go_wp2_with fail
      have E := eC (V := w) (bstep hB hv4) RoX2 RoX3 (by omega) (by omega) (by omega) c0_ s0_ (.slice p_1.A p_1.n p_1.c) (.slice d_1.A d_1.n d_1.c) (.slice p_3.A p_3.n p_3.c) (.slice d_3.A d_3.n d_3.c)
      exact bodyPost_ret (res_cc rfl q_row q_row rfl rfl E.1 E.2.1 rfl rfl) rfl ⟨_, _, _, _, rfl, E.2.2.2 _ _ _ L1.out, E.2.2.2 _ _ _ L3.out, E.2.2.1⟩
end Go.Proofs.YthkkdepppjiaeaaGreatDoor

/- The reference of layer 16: outside. -/
namespace Go.Proofs.YthkkdepppjiaeaaGreatDoor
open Go.RowKit Go.Shelf Go.Sort

attribute [local go_sem] Oper.semAt_some

def outQ (x m : Rat) : Bool := decide (cmpQ x (-m) < 0) || decide (cmpQ m x < 0)
theorem inR_out (p q : Rat) : (outQ p 1 || outQ q (1 / 2)) = !inR p q := by
  unfold outQ inR wiQ
  rw [show (0 : Rat) - 1 = -1 by grind]
  generalize decide (cmpQ p (-1) < 0) = a
  generalize decide (cmpQ 1 p < 0) = b
  generalize decide (cmpQ q (-(1 / 2)) < 0) = c
  generalize decide (cmpQ (1 / 2) q < 0) = d
  cases a <;> cases b <;> cases c <;> cases d <;> rfl


set_option maxRecDepth 100000 in
set_option maxHeartbeats 4000000 in
theorem r16_outside (x m : Rat) (p d s t : Sl) (w : World) (hx : RQ w p d x) (hm : RQ w s t m) (zx : Sz 1000 x) (zm : Sz 1000 m) :
    Calls Tryz.prog 113 #[qW (sgB x.num) p d, qW (sgB m.num) s t] w fun e w' => e = .returned (.bool (outQ x m)) ∧ Below w.heap.size w w' := by
  have H0 := Lib.hid (fun W (hb : Below w.heap.size w W) => r16_Neg m s t W (hm.below hb) (zm.mono (by decide)))
  have H1 := Lib.hid (fun W (hb : Below w.heap.size w W) e f (k : RQ W e f (-m)) => r16_Less x (-m) p d e f W (hx.below hb) k (zx.mono (by decide)) ((sz_neg zm).mono (by decide)))
  have H2 := Lib.hid (fun W (hb : Below w.heap.size w W) => r16_Less m x s t p d W (hm.below hb) (hx.below hb) (zm.mono (by decide)) (zx.mono (by decide)))
  unfold outQ
  clear hx hm zx zm
  generalize decide (cmpQ x (-m) < 0) = b1 at *
  generalize decide (cmpQ m x < 0) = b2 at *
  generalize -m = n at *
  generalize sgB x.num = x0_ at *
  generalize sgB m.num = m0_ at *
  generalize sgB n.num = n0_ at *
  cases b1
  · go_enter Tryz.func113, Tryz.ntmps113
    go_upto_region 1 with fail
    generalize hW : (World.alloc w _).alloc _ = W
    obtain ⟨hB, hsz, R2, R3⟩ := A2 hW
    have R2 := Lib.hid R2
    have R3 := Lib.hid R3
    clear hW hsz
    have LR2 := fun (w' : World) (h : Ap W.heap.size W.heap.size W w') => rowc3 (h.rowV R2.out)
    have LR3 := fun (w' : World) (h : Ap W.heap.size W.heap.size W w') => rowc3 (h.rowV R3.out)
    have hvr := Below.refl W.heap.size W
    have hv0 := hvr.drew
    first
    | go_region_held3 (fun w' => Ap W.heap.size W.heap.size W w') (first | (with_reducible assumption) | (with_reducible exact Ap.refl _ _ _) | ((repeat (first | with_reducible assumption | with_reducible exact Ap.refl _ _ _ | with_reducible refine Ap.drew ?_ | with_reducible refine Ap.alloc ?_ | with_reducible refine Ap.set1 ?_ | with_reducible refine Ap.set2 ?_ | with_reducible refine Ap.setN (by first | with_reducible assumption | with_reducible exact Nat.le_refl _ | with_reducible exact Nat.le_add_right _ _ | with_reducible exact Nat.le_trans (by assumption) (Nat.le_add_right _ _)) ?_)); done))
        (first
          | (go_at_call 116; (with_reducible refine (H0.out _ (bstep hB (by first | with_reducible exact hv0))).mono ?_); rintro e wq0 ⟨p_0, d_0, rfl, hk_0, hb⟩; have hv1 : Below W.heap.size W wq0 := (by first | with_reducible exact bstep (hv0) hb); have hs1 := Ap.of_below (g := W.heap.size) (h := W.heap.size) hv1; have sz1 := hv1.size; have L0 := Lib.hid hk_0; clear hk_0; clear hb)
          | (go_at_call 146; (with_reducible refine (H1.out _ (bstep hB (by first | with_reducible exact hv1)) p_0 d_0 (by first | with_reducible exact L0.out | with_reducible exact (L0.out.below (Below.drew (Below.refl _ _))))).mono ?_); rintro e wq1 ⟨rfl, hb⟩; have hv2 : Below W.heap.size W wq1 := (by first | with_reducible exact bstep (hv1) hb); have hs2 := Ap.of_below (g := W.heap.size) (h := W.heap.size) hv2; have sz2 := hv2.size; have L0 := Lib.hid (by first | with_reducible exact L0.out.below hb | with_reducible exact (L0.out.below (Below.drew (Below.refl _ _))).below hb); clear hb)
          | (go_at_call 146; (with_reducible refine (H2.out _ (bstep hB (by first | with_reducible exact hv2))).mono ?_); rintro e wq2 ⟨rfl, hb⟩; have hv3 : Below W.heap.size W wq2 := (by first | with_reducible exact bstep (hv2) hb); have hs3 := Ap.of_below (g := W.heap.size) (h := W.heap.size) hv3; have sz3 := hv3.size; have L0 := Lib.hid (by first | with_reducible exact L0.out.below hb | with_reducible exact (L0.out.below (Below.drew (Below.refl _ _))).below hb); clear hb))
    | fail
    all_goals
      go_wp2_with fail
      go_ret
      exact ⟨rfl, bstep hB hv3⟩
  · go_enter Tryz.func113, Tryz.ntmps113
    go_upto_region 1 with fail
    generalize hW : (World.alloc w _).alloc _ = W
    obtain ⟨hB, hsz, R2, R3⟩ := A2 hW
    have R2 := Lib.hid R2
    have R3 := Lib.hid R3
    clear hW hsz
    have hB0 := hB.drew
    obtain ⟨x0, x1, x2⟩ := rowc3 R2.out
    obtain ⟨y0, y1, y2⟩ := rowc3 R3.out
    first
    | go_region_with (first
        | (go_at_call 116; (with_reducible refine (H0.out _ hB0).mono ?_); rintro e wq0 ⟨p_0, d_0, rfl, hk_0, hb⟩; have hB1 := bstep hB0 hb; have K0 := Lib.hid hk_0; clear hk_0; obtain ⟨x0, x1, x2⟩ := rowc3 (keep hb R2.out); obtain ⟨y0, y1, y2⟩ := rowc3 (keep hb R3.out); clear hb)
        | (go_at_call 146; (with_reducible refine (H1.out _ hB1 _ _ K0.out).mono ?_); rintro e wq1 ⟨rfl, hb⟩; have hB2 := bstep hB1 hb; clear hb))
    | fail
    all_goals
      go_wp2_with fail
      go_ret
      exact ⟨rfl, hB2⟩
end Go.Proofs.YthkkdepppjiaeaaGreatDoor
