/- A PART OF THE PROOF, JOINED OUT OF 2 TEXTS. -/
import Derived.Test.YthkkdepppjiaeaaGreatDoorQzRef
import Derived.Test.YthkkdepppjiaeaaGreatDoorRdRange
import Derived.Test.YthkkdepppjiaeaaGreatDoorRgExtent
/- The reference of layer 16: Least, Most, Between. -/
namespace Go.Proofs.YthkkdepppjiaeaaGreatDoor
open Go.RowKit Go.Shelf Go.Sort

attribute [local go_sem] Oper.semAt_some

def lst16 (x y : Rat) : Rat := if cmpQ y x < 0 then y else x
def mst16 (x y : Rat) : Rat := if cmpQ x y < 0 then y else x


set_option maxRecDepth 100000 in
set_option maxHeartbeats 4000000 in
theorem r16_Least (x y : Rat) (p d s t : Sl) (w : World) (hx : RQ w p d x) (hy : RQ w s t y) (zx : Sz 20000000 x) (zy : Sz 20000000 y) :
    Calls Tryz.prog 129 #[qW (sgB x.num) p d, qW (sgB y.num) s t] w fun e w' => ∃ a c : Sl, e = .returned (qW (sgB (lst16 x y).num) a c) ∧ RQ w' a c (lst16 x y) ∧ Below w.heap.size w w' := by
  have HL := Lib.hid (fun W (hb : Below w.heap.size w W) => r16_Less y x s t p d W (hy.below hb) (hx.below hb) zy zx)
  have HX := Lib.hid (fun W (hb : Below w.heap.size w W) => hx.below hb)
  have HY := Lib.hid (fun W (hb : Below w.heap.size w W) => hy.below hb)
  clear hx hy zx zy
  have hr : ∃ r, decide (cmpQ y x < 0) = r := ⟨_, rfl⟩
  obtain ⟨r, hr⟩ := hr
  have ev : lst16 x y = if r = true then y else x := by
    unfold lst16
    rw [← hr]
    by_cases h : cmpQ y x < 0
    · rw [if_pos h, decide_eq_true h, if_pos rfl]
    · rw [if_neg h, decide_eq_false h, if_neg (by decide)]
  rw [hr] at HL
  rw [ev]
  clear hr ev
  cases r
  · rw [if_neg (by decide)]
    generalize sgB x.num = x0 at *
    generalize sgB y.num = y0 at *
    go_enter Tryz.func129, Tryz.ntmps129
    go_upto_region 1 with fail
    generalize hW : ((World.alloc w _).alloc _).alloc _ = W
    obtain ⟨hB, hsz, R1, R2, R4⟩ := A3 hW
    have R1 := Lib.hid R1
    have R2 := Lib.hid R2
    have R4 := Lib.hid R4
    clear hW hsz
    obtain ⟨R1c0, R1c1, R1c2, R1f0, R1f1, R1f2⟩ := row3 R1.out
    obtain ⟨R2c0, R2c1, R2c2, R2f0, R2f1, R2f2⟩ := row3 R2.out
    go_wp2_with fail
    clear R1c0 R1c1 R1c2 R1f0 R1f1 R1f2
    clear R2c0 R2c1 R2c2 R2f0 R2f1 R2f2
    refine (HL.out _ hB).mono ?_
    rintro e w1 ⟨rfl, hb⟩
    replace hB := bstep hB hb
    have R1 := Lib.hid (keep hb R1.out)
    have R2 := Lib.hid (keep hb R2.out)
    have R4 := Lib.hid (keep hb R4.out)
    clear hb
    obtain ⟨R1c0, R1c1, R1c2, R1f0, R1f1, R1f2⟩ := row3 R1.out
    obtain ⟨R4c0, R4c1, R4c2, R4f0, R4f1, R4f2⟩ := row3 R4.out
    go_wp2_with fail
    exact bodyPost_ret (res_c rfl q_row rfl (store3 R4.out _ _ _) rfl) rfl ⟨p, d, rfl, (HX.out _ hB).st3 R4.out, store3_below hB (by omega) _ _ _⟩
  · rw [if_pos rfl]
    generalize sgB x.num = x0 at *
    generalize sgB y.num = y0 at *
    go_enter Tryz.func129, Tryz.ntmps129
    go_upto_region 1 with fail
    generalize hW : ((World.alloc w _).alloc _).alloc _ = W
    obtain ⟨hB, hsz, R1, R2, R4⟩ := A3 hW
    have R1 := Lib.hid R1
    have R2 := Lib.hid R2
    have R4 := Lib.hid R4
    clear hW hsz
    obtain ⟨R1c0, R1c1, R1c2, R1f0, R1f1, R1f2⟩ := row3 R1.out
    obtain ⟨R2c0, R2c1, R2c2, R2f0, R2f1, R2f2⟩ := row3 R2.out
    go_wp2_with fail
    clear R1c0 R1c1 R1c2 R1f0 R1f1 R1f2
    clear R2c0 R2c1 R2c2 R2f0 R2f1 R2f2
    refine (HL.out _ hB).mono ?_
    rintro e w1 ⟨rfl, hb⟩
    replace hB := bstep hB hb
    have R1 := Lib.hid (keep hb R1.out)
    have R2 := Lib.hid (keep hb R2.out)
    have R4 := Lib.hid (keep hb R4.out)
    clear hb
    obtain ⟨R2c0, R2c1, R2c2, R2f0, R2f1, R2f2⟩ := row3 R2.out
    obtain ⟨R4c0, R4c1, R4c2, R4f0, R4f1, R4f2⟩ := row3 R4.out
    go_wp2_with fail
    exact bodyPost_ret (res_c rfl q_row rfl (store3 R4.out _ _ _) rfl) rfl ⟨s, t, rfl, (HY.out _ hB).st3 R4.out, store3_below hB (by omega) _ _ _⟩


set_option maxRecDepth 100000 in
set_option maxHeartbeats 4000000 in
theorem r16_Most (x y : Rat) (p d s t : Sl) (w : World) (hx : RQ w p d x) (hy : RQ w s t y) (zx : Sz 20000000 x) (zy : Sz 20000000 y) :
    Calls Tryz.prog 130 #[qW (sgB x.num) p d, qW (sgB y.num) s t] w fun e w' => ∃ a c : Sl, e = .returned (qW (sgB (mst16 x y).num) a c) ∧ RQ w' a c (mst16 x y) ∧ Below w.heap.size w w' := by
  have HL := Lib.hid (fun W (hb : Below w.heap.size w W) => r16_Less x y p d s t W (hx.below hb) (hy.below hb) zx zy)
  have HX := Lib.hid (fun W (hb : Below w.heap.size w W) => hx.below hb)
  have HY := Lib.hid (fun W (hb : Below w.heap.size w W) => hy.below hb)
  clear hx hy zx zy
  have hr : ∃ r, decide (cmpQ x y < 0) = r := ⟨_, rfl⟩
  obtain ⟨r, hr⟩ := hr
  have ev : mst16 x y = if r = true then y else x := by
    unfold mst16
    rw [← hr]
    by_cases h : cmpQ x y < 0
    · rw [if_pos h, decide_eq_true h, if_pos rfl]
    · rw [if_neg h, decide_eq_false h, if_neg (by decide)]
  rw [hr] at HL
  rw [ev]
  clear hr ev
  cases r
  · rw [if_neg (by decide)]
    generalize sgB x.num = x0 at *
    generalize sgB y.num = y0 at *
    go_enter Tryz.func130, Tryz.ntmps130
    go_upto_region 1 with fail
    generalize hW : ((World.alloc w _).alloc _).alloc _ = W
    obtain ⟨hB, hsz, R1, R2, R4⟩ := A3 hW
    have R1 := Lib.hid R1
    have R2 := Lib.hid R2
    have R4 := Lib.hid R4
    clear hW hsz
    obtain ⟨R1c0, R1c1, R1c2, R1f0, R1f1, R1f2⟩ := row3 R1.out
    obtain ⟨R2c0, R2c1, R2c2, R2f0, R2f1, R2f2⟩ := row3 R2.out
    go_wp2_with fail
    clear R1c0 R1c1 R1c2 R1f0 R1f1 R1f2
    clear R2c0 R2c1 R2c2 R2f0 R2f1 R2f2
    refine (HL.out _ hB).mono ?_
    rintro e w1 ⟨rfl, hb⟩
    replace hB := bstep hB hb
    have R1 := Lib.hid (keep hb R1.out)
    have R2 := Lib.hid (keep hb R2.out)
    have R4 := Lib.hid (keep hb R4.out)
    clear hb
    obtain ⟨R1c0, R1c1, R1c2, R1f0, R1f1, R1f2⟩ := row3 R1.out
    obtain ⟨R4c0, R4c1, R4c2, R4f0, R4f1, R4f2⟩ := row3 R4.out
    go_wp2_with fail
    exact bodyPost_ret (res_c rfl q_row rfl (store3 R4.out _ _ _) rfl) rfl ⟨p, d, rfl, (HX.out _ hB).st3 R4.out, store3_below hB (by omega) _ _ _⟩
  · rw [if_pos rfl]
    generalize sgB x.num = x0 at *
    generalize sgB y.num = y0 at *
    go_enter Tryz.func130, Tryz.ntmps130
    go_upto_region 1 with fail
    generalize hW : ((World.alloc w _).alloc _).alloc _ = W
    obtain ⟨hB, hsz, R1, R2, R4⟩ := A3 hW
    have R1 := Lib.hid R1
    have R2 := Lib.hid R2
    have R4 := Lib.hid R4
    clear hW hsz
    obtain ⟨R1c0, R1c1, R1c2, R1f0, R1f1, R1f2⟩ := row3 R1.out
    obtain ⟨R2c0, R2c1, R2c2, R2f0, R2f1, R2f2⟩ := row3 R2.out
    go_wp2_with fail
    clear R1c0 R1c1 R1c2 R1f0 R1f1 R1f2
    clear R2c0 R2c1 R2c2 R2f0 R2f1 R2f2
    refine (HL.out _ hB).mono ?_
    rintro e w1 ⟨rfl, hb⟩
    replace hB := bstep hB hb
    have R1 := Lib.hid (keep hb R1.out)
    have R2 := Lib.hid (keep hb R2.out)
    have R4 := Lib.hid (keep hb R4.out)
    clear hb
    obtain ⟨R2c0, R2c1, R2c2, R2f0, R2f1, R2f2⟩ := row3 R2.out
    obtain ⟨R4c0, R4c1, R4c2, R4f0, R4f1, R4f2⟩ := row3 R4.out
    go_wp2_with fail
    exact bodyPost_ret (res_c rfl q_row rfl (store3 R4.out _ _ _) rfl) rfl ⟨s, t, rfl, (HY.out _ hB).st3 R4.out, store3_below hB (by omega) _ _ _⟩


set_option maxRecDepth 100000 in
set_option maxHeartbeats 4000000 in
theorem r16_Between (x y : Rat) (p d s t : Sl) (w : World) (hx : RQ w p d x) (hy : RQ w s t y) (zx : Sz 20000000 x) (zy : Sz 20000000 y) :
    Calls Tryz.prog 87 #[qW (sgB x.num) p d, qW (sgB y.num) s t] w fun e w' => e = .returned (.agg #[.string (rs x), .string (rs y)]) ∧ Below w.heap.size w w' := by
  have T1 := Lib.hid (fun W p d (k : RQ W p d x) => r3_To x p d W k (zx.mono (by decide)))
  have T2 := Lib.hid (fun W p d (k : RQ W p d y) => r3_To y p d W k (zy.mono (by decide)))
  clear zx zy
  generalize sgB x.num = x0 at *
  generalize sgB y.num = y0 at *
  go_enter Tryz.func87, Tryz.ntmps87
  go_upto_region 1 with fail
  generalize hW : ((World.alloc w _).alloc _).alloc _ = W
  obtain ⟨hB, hsz, R1, R2, R4⟩ := A3 hW
  have R1 := Lib.hid R1
  have R2 := Lib.hid R2
  have R4 := Lib.hid R4
  clear hW hsz
  have K1 := Lib.hid (hx.below hB)
  have K2 := Lib.hid (hy.below hB)
  clear hx hy
  have LR1 := fun (w' : World) (h : Ap (w.heap.size + 2) (w.heap.size + 2) W w') => rowc3 (h.row R1.out (by omega) (by omega))
  have LR2 := fun (w' : World) (h : Ap (w.heap.size + 2) (w.heap.size + 2) W w') => rowc3 (h.row R2.out (by omega) (by omega))
  have hvr := Below.refl W.heap.size W
  have hv0 := hvr.drew
  first
  | go_region_held3 (fun w' => Ap (w.heap.size + 2) (w.heap.size + 2) W w') (first | (with_reducible assumption) | (with_reducible exact Ap.refl _ _ _) | ((repeat (first | with_reducible assumption | with_reducible exact Ap.refl _ _ _ | with_reducible refine Ap.drew ?_ | with_reducible refine Ap.alloc ?_ | with_reducible refine Ap.set1 ?_ | with_reducible refine Ap.set2 ?_ | with_reducible refine Ap.setN (by first | with_reducible assumption | with_reducible exact Nat.le_refl _ | with_reducible exact Nat.le_add_right _ _ | with_reducible exact Nat.le_trans (by assumption) (Nat.le_add_right _ _)) ?_)); done))
      (first
        | (go_at_call 21; (with_reducible refine (T1.out _  p d (by first | with_reducible exact K1.out | with_reducible exact (K1.out.below (Below.drew (Below.refl _ _))))).mono ?_); rintro e wq0 ⟨rfl, hb⟩; have hv1 : Below W.heap.size W wq0 := (by first | with_reducible exact bstep (hv0) hb); have hs1 := Ap.of_below (g := w.heap.size + 2) (h := w.heap.size + 2) hv1; have sz1 := hv1.size; have K1 := Lib.hid (by first | with_reducible exact K1.out.below hb | with_reducible exact (K1.out.below (Below.drew (Below.refl _ _))).below hb); have K2 := Lib.hid (by first | with_reducible exact K2.out.below hb | with_reducible exact (K2.out.below (Below.drew (Below.refl _ _))).below hb); clear hb)
        | (go_at_call 21; (with_reducible refine (T2.out _  s t (by first | with_reducible exact K2.out | with_reducible exact (K2.out.below (Below.drew (Below.refl _ _))))).mono ?_); rintro e wq1 ⟨rfl, hb⟩; have hv2 : Below W.heap.size W wq1 := (by first | with_reducible exact bstep (hv1) hb); have hs2 := Ap.of_below (g := w.heap.size + 2) (h := w.heap.size + 2) hv2; have sz2 := hv2.size; have K1 := Lib.hid (by first | with_reducible exact K1.out.below hb | with_reducible exact (K1.out.below (Below.drew (Below.refl _ _))).below hb); have K2 := Lib.hid (by first | with_reducible exact K2.out.below hb | with_reducible exact (K2.out.below (Below.drew (Below.refl _ _))).below hb); have RoX := keep hv2 R4.out; obtain ⟨RoF0, RoF1, RoF2, RoF3⟩ := row2 RoX; clear hb))
  | fail
  all_goals
    go_wp2_with fail
    exact bodyPost_ret (res_c rfl ivl_row rfl (store2 RoX _ _) rfl) rfl ⟨rfl, store2_below (bstep hB hv2) (by omega) _ _⟩
end Go.Proofs.YthkkdepppjiaeaaGreatDoor

/- The reference of layer 16: Triangles. -/
namespace Go.Proofs.YthkkdepppjiaeaaGreatDoor
open Go.RowKit Go.Shelf Go.Sort

attribute [local go_sem] Oper.semAt_some

/-- The cells of a vector of fractions; of many. -/
def vcl (a : V3) (u : VS) : List Value := [.bool (sgB a.x.num), .slice u.x.p.A u.x.p.n u.x.p.c, .slice u.x.d.A u.x.d.n u.x.d.c, .bool (sgB a.y.num), .slice u.y.p.A u.y.p.n u.y.p.c, .slice u.y.d.A u.y.d.n u.y.d.c, .bool (sgB a.z.num), .slice u.z.p.A u.z.p.n u.z.p.c, .slice u.z.d.A u.z.d.n u.z.d.c]
def vtl (V : Nat → V3) (U : Nat → VS) (m : Nat) : List Value := (List.range m).flatMap fun j => vcl (V j) (U j)
theorem vtl_len (V : Nat → V3) (U : Nat → VS) : ∀ m, (vtl V U m).length = m * 9
  | 0 => rfl
  | m + 1 => by
    have ih := vtl_len V U m
    unfold vtl at ih ⊢
    rw [List.range_succ, List.flatMap_append, List.length_append, ih]
    simp [vcl]
    omega
theorem vtl_succ (V : Nat → V3) (U : Nat → VS) (m : Nat) : vtl V U (m + 1) = vtl V U m ++ vcl (V m) (U m) := by
  unfold vtl
  rw [List.range_succ, List.flatMap_append]
  simp
theorem vtl_congr {V : Nat → V3} {U U' : Nat → VS} : ∀ {m : Nat}, (∀ j, j < m → U j = U' j) → vtl V U m = vtl V U' m
  | 0, _ => rfl
  | m + 1, h => by rw [vtl_succ, vtl_succ, vtl_congr (m := m) (fun j hj => h j (by omega)), h m (by omega)]
theorem vtl_get (V : Nat → V3) (U : Nat → VS) : ∀ m j i, j < m → i < 9 → (vtl V U m)[j * 9 + i]? = (vcl (V j) (U j))[i]?
  | 0, j, i, hj, _ => absurd hj (by omega)
  | m + 1, j, i, hj, hi => by
    rw [vtl_succ]
    by_cases e : j = m
    · subst e
      rw [List.getElem?_append_right (by rw [vtl_len]; omega), vtl_len, show j * 9 + i - j * 9 = i by omega]
    · rw [List.getElem?_append_left (by rw [vtl_len]; omega), vtl_get V U m j i (by omega) hi]
theorem RN.grown {w w' : World} {s : Sl} {n : Nat} {row : Option Nat} (h : RN w s n) (hg : w.grownBy w' row) (hr : ∀ g, row = some g → ∃ x, w.cell? ⟨g, 0, none⟩ = some (.bool x)) : RN w' s n := by
  obtain ⟨A, c, e, h1, h2, h3⟩ := h
  refine ⟨A, c, e, h1, h2, ?_⟩
  rcases h3 with h3 | ⟨b, rfl, h3⟩
  · exact .inl h3
  · by_cases hl : 0 < (ws n).length
    · refine .inr ⟨b, rfl, fun j hj => ?_⟩
      have h0 := h3 0 hl
      have hne : some b ≠ row := by
        intro e
        obtain ⟨x, hx⟩ := hr b e.symm
        rw [hx] at h0
        injection h0 with h0
        cases h0
      exact (World.cell?_of_block (w := w) (hg.block b (World.block_lt_of_cell? w _ h0) hne)).trans (h3 j hj)
    · exact .inl (List.eq_nil_of_length_eq_zero (by omega))
theorem RQ.grown {w w' : World} {p d : Sl} {x : Rat} {row : Option Nat} (h : RQ w p d x) (hg : w.grownBy w' row) (hr : ∀ g, row = some g → ∃ x, w.cell? ⟨g, 0, none⟩ = some (.bool x)) : RQ w' p d x := ⟨h.num.grown hg hr, h.den.grown hg hr⟩
theorem RV.grown {w w' : World} {s : VS} {a : V3} {row : Option Nat} (h : RV w s a) (hg : w.grownBy w' row) (hr : ∀ g, row = some g → ∃ x, w.cell? ⟨g, 0, none⟩ = some (.bool x)) : RV w' s a := ⟨h.x.grown hg hr, h.y.grown hg hr, h.z.grown hg hr⟩
noncomputable def trfI : TypeInfo := (Tryz.prog.info? 192).get (by kernel_rfl)
def trfZ : Value := .agg #[.bool false, .slice none 0 0, .slice none 0 0, .bool false, .slice none 0 0, .slice none 0 0, .bool false, .slice none 0 0, .slice none 0 0, .bool false, .slice none 0 0, .slice none 0 0, .bool false, .slice none 0 0, .slice none 0 0, .bool false, .slice none 0 0, .slice none 0 0, .bool false, .slice none 0 0, .slice none 0 0, .bool false, .slice none 0 0, .slice none 0 0, .bool false, .slice none 0 0, .slice none 0 0]
/-- The row of triangles: what it begins with. -/
theorem owns_bool {W : World} {base k : Nat} {t : TypeId} {v : Value} {V : Nat → V3} {U : Nat → VS} (h : W.ownsRow base t 27 v k (vtl V U (k * 3))) (h0 : k = 0 → v = .slice none 0 0) : ∀ g, v.ownBlock = some g → ∃ x, W.cell? ⟨g, 0, none⟩ = some (.bool x) := by
  intro g hg
  rcases h.2 with ⟨rfl, _⟩ | ⟨g', cap, cur, rfl, _, h3, h4, _, h6, h7⟩
  · cases hg
  · simp [Value.ownBlock] at hg
    subst hg
    by_cases hk : k = 0
    · cases h0 hk
    · have e := vtl_get V U (k * 3) 0 0 (by omega) (by decide)
      rw [← h7, List.getElem?_take_of_lt (by omega), Array.getElem?_toList] at e
      exact ⟨_, (cell_of_row W g' 0 _ _ _ h3).trans e⟩


set_option maxRecDepth 100000 in
set_option maxHeartbeats 16000000 in
theorem r16_Triangles_run (b0 o n c m : Nat) (T : Nat → ByteArray × ByteArray × ByteArray) (V : Nat → V3) (b : Nat → Bool) (w : World) (hn : 1 ≤ n) (hn2 : n ≤ 512) (hA : VecsAt w b0 o (n * 3) T) (hm : m ≤ n)
    (hg : ∀ i, i < m * 3 → b i = true) (hx : m < n → (b (m * 3 + 0) && b (m * 3 + 1) && b (m * 3 + 2)) = false)
    (hv : ∀ i, i < n * 3 → ∀ W, Calls Tryz.prog 73 #[txW (T i)] W fun e w' => ∃ u : VS, e = .returned (.tuple #[.agg #[.bool (sgB (V i).x.num), .slice u.x.p.A u.x.p.n u.x.p.c, .slice u.x.d.A u.x.d.n u.x.d.c, .bool (sgB (V i).y.num), .slice u.y.p.A u.y.p.n u.y.p.c, .slice u.y.d.A u.y.d.n u.y.d.c, .bool (sgB (V i).z.num), .slice u.z.p.A u.z.p.n u.z.p.c, .slice u.z.d.A u.z.d.n u.z.d.c], .bool (b i)]) ∧ RV w' u (V i) ∧ Below W.heap.size W w') :
    Calls Tryz.prog 127 #[.slice (some ⟨b0, o, none⟩) n c] w fun e w' => (if m = n then ∃ (v : Value) (U : Nat → VS), e = .returned (.tuple #[v, .bool true]) ∧ w'.ownsRow w.heap.size 192 27 v n (vtl V U (n * 3)) ∧ (∀ j, j < n * 3 → RV w' (U j) (V j)) else e = .returned (.tuple #[.slice none 0 0, .bool false])) ∧ Below w.heap.size w w' := by
  have HA := Lib.hid hA
  have HV := Lib.hid hv
  have HG := Lib.hid hg
  have HXX := Lib.hid hx
  clear hA hv hg hx
  generalize hRES : (fun (e : Ending) (w' : World) => (if m = n then ∃ (v : Value) (U : Nat → VS), e = .returned (.tuple #[v, .bool true]) ∧ w'.ownsRow w.heap.size 192 27 v n (vtl V U (n * 3)) ∧ (∀ j, j < n * 3 → RV w' (U j) (V j)) else e = .returned (.tuple #[.slice none 0 0, .bool false]))) = RES
  show Calls Tryz.prog 127 #[.slice (some ⟨b0, o, none⟩) n c] w fun e w' => (fun (e : Ending) (w' : World) => (if m = n then ∃ (v : Value) (U : Nat → VS), e = .returned (.tuple #[v, .bool true]) ∧ w'.ownsRow w.heap.size 192 27 v n (vtl V U (n * 3)) ∧ (∀ j, j < n * 3 → RV w' (U j) (V j)) else e = .returned (.tuple #[.slice none 0 0, .bool false]))) e w' ∧ Below w.heap.size w w'
  rw [hRES]
  have HRES := Lib.hid hRES
  clear hRES
  go_enter Tryz.func127, Tryz.ntmps127
  go_wp2_with fail
  go_loopw [15, 4] (fun x y wr => ∃ (k : Nat) (yv : Value) (U : Nat → VS), k ≤ m ∧ x = .int .i64 k ∧ yv = y ∧ Below w.heap.size w wr ∧ Hid (wr.ownsRow w.heap.size 192 27 yv k (vtl V U (k * 3))) ∧ Hid (∀ j, j < k * 3 → RV wr (U j) (V j)) ∧ Hid (k = 0 → yv = .slice none 0 0)) (fun x _ _ => n - (intOf x).toNat)
  case atStart => exact ⟨0, _, fun _ => ⟨⟨⟨none, 0, 0⟩, ⟨none, 0, 0⟩⟩, ⟨⟨none, 0, 0⟩, ⟨none, 0, 0⟩⟩, ⟨⟨none, 0, 0⟩, ⟨none, 0, 0⟩⟩⟩, Nat.zero_le _, rfl, rfl, Below.refl _ _, Lib.hid ⟨rfl, .inl ⟨rfl, rfl⟩⟩, Lib.hid (fun j hj => absurd hj (by omega)), Lib.hid (fun _ => rfl)⟩
  case round =>
    obtain ⟨k, yv, U, hk, rfl, rfl, HB, HO, HU, H0⟩ := hrel
    by_cases hlt : k < m
    · have hkn : k < n := by omega
      have g0 : b (k * 3) = true := HG.out (k * 3) (by omega)
      have g1 := HG.out (k * 3 + 1) (by omega)
      have g2 := HG.out (k * 3 + 2) (by omega)
      obtain ⟨v0, v1, v2⟩ := (HA.out.below HB) (k * 3 + 0) (by omega)
      obtain ⟨v3, v4, v5⟩ := (HA.out.below HB) (k * 3 + 1) (by omega)
      obtain ⟨v6, v7, v8⟩ := (HA.out.below HB) (k * 3 + 2) (by omega)
      rw [show o + (k * 3 + 0) * 3 = o + k * 9 by omega] at v0 v1 v2
      rw [show o + (k * 3 + 1) * 3 = o + k * 9 + 3 by omega] at v3 v4 v5
      rw [show o + (k * 3 + 2) * 3 = o + k * 9 + 6 by omega] at v6 v7 v8
      go_upto_region 5 with fail
      clear v0 v1 v2 v3 v4 v5 v6 v7 v8
      generalize hY : World.alloc wr _ = Y
      obtain ⟨hb, hsz, R6⟩ := A1 hY
      have R6 := Lib.hid R6
      replace HB := bstep HB hb
      have HO := Lib.hid (owns_below HO.out hb)
      have HU := Lib.hid (fun j hj => (HU.out j hj).below hb)
      clear hb hY hsz
      obtain ⟨c0, c1, c2, c3, c4, c5, c6, c7, c8⟩ := rowc9 R6.out
      go_wp2_with fail
      clear c0 c1 c2 c3 c4 c5 c6 c7 c8
      refine (HV.out (k * 3 + 0) (by omega) _).mono ?_
      rintro e w5 ⟨u0, rfl, hu, hb⟩
      replace HB := bstep HB hb
      have KU0 := Lib.hid hu
      have HO := Lib.hid (owns_below HO.out hb)
      have HU := Lib.hid (fun j hj => (HU.out j hj).below hb)
      have R6 := Lib.hid (keep hb R6.out)
      clear hb hu
      go_upto_region 6 with fail
      generalize hY : World.alloc w5 _ = Y0
      obtain ⟨hb, hsz, R7⟩ := A1 hY
      have R7 := Lib.hid R7
      replace HB := bstep HB hb
      have HO := Lib.hid (owns_below HO.out hb)
      have HU := Lib.hid (fun j hj => (HU.out j hj).below hb)
      have R6 := Lib.hid (keep hb R6.out)
      have KU0 := Lib.hid (KU0.out.below hb)
      clear hb hY hsz
      obtain ⟨c0, c1, c2, c3, c4, c5, c6, c7, c8⟩ := rowc9 R6.out
      go_wp2_with fail
      clear c0 c1 c2 c3 c4 c5 c6 c7 c8
      refine (HV.out (k * 3 + 1) (by omega) _).mono ?_
      rintro e w6 ⟨u1, rfl, hu, hb⟩
      replace HB := bstep HB hb
      have KU1 := Lib.hid hu
      have HO := Lib.hid (owns_below HO.out hb)
      have HU := Lib.hid (fun j hj => (HU.out j hj).below hb)
      have R6 := Lib.hid (keep hb R6.out)
      have R7 := Lib.hid (keep hb R7.out)
      have KU0 := Lib.hid (KU0.out.below hb)
      clear hb hu
      go_upto_region 7 with fail
      generalize hY : World.alloc w6 _ = Y1
      obtain ⟨hb, hsz, R9⟩ := A1 hY
      have R9 := Lib.hid R9
      replace HB := bstep HB hb
      have HO := Lib.hid (owns_below HO.out hb)
      have HU := Lib.hid (fun j hj => (HU.out j hj).below hb)
      have R6 := Lib.hid (keep hb R6.out)
      have R7 := Lib.hid (keep hb R7.out)
      have KU0 := Lib.hid (KU0.out.below hb)
      have KU1 := Lib.hid (KU1.out.below hb)
      clear hb hY hsz
      obtain ⟨c0, c1, c2, c3, c4, c5, c6, c7, c8⟩ := rowc9 R6.out
      go_wp2_with fail
      clear c0 c1 c2 c3 c4 c5 c6 c7 c8
      refine (HV.out (k * 3 + 2) (by omega) _).mono ?_
      rintro e w7 ⟨u2, rfl, hu, hb⟩
      replace HB := bstep HB hb
      have KU2 := Lib.hid hu
      have HO := Lib.hid (owns_below HO.out hb)
      have HU := Lib.hid (fun j hj => (HU.out j hj).below hb)
      have R6 := Lib.hid (keep hb R6.out)
      have R7 := Lib.hid (keep hb R7.out)
      have R9 := Lib.hid (keep hb R9.out)
      have KU0 := Lib.hid (KU0.out.below hb)
      have KU1 := Lib.hid (KU1.out.below hb)
      clear hb hu
      go_upto_region 8 with fail
      generalize hY : World.alloc w7 _ = Y2
      obtain ⟨hb, hsz, R11⟩ := A1 hY
      have R11 := Lib.hid R11
      replace HB := bstep HB hb
      have HO := Lib.hid (owns_below HO.out hb)
      have HU := Lib.hid (fun j hj => (HU.out j hj).below hb)
      have R6 := Lib.hid (keep hb R6.out)
      have R7 := Lib.hid (keep hb R7.out)
      have R9 := Lib.hid (keep hb R9.out)
      have KU0 := Lib.hid (KU0.out.below hb)
      have KU1 := Lib.hid (KU1.out.below hb)
      have KU2 := Lib.hid (KU2.out.below hb)
      clear hb hY hsz
      have HKn := Lib.hid hkn
      obtain ⟨a0, a1, a2, a3, a4, a5, a6, a7, a8⟩ := rowc9 R7.out
      obtain ⟨d0, d1, d2, d3, d4, d5, d6, d7, d8⟩ := rowc9 R9.out
      obtain ⟨e0, e1, e2, e3, e4, e5, e6, e7, e8⟩ := rowc9 R11.out
      go_wp2_with (at_builtin; refine wpList_append_own _ rfl _ _ 138 rfl w.heap.size 192 trfI trfZ 27 504 Tryz.underlying138 (by kernel_rfl) (by kernel_rfl) (by kernel_rfl) (by kernel_rfl) rfl (by decide) _ _ _ rfl (owns_below HO.out (A1 rfl).1) ⟨Y2.heap.size, 0, none⟩ 1 1 (vcl (V (k * 3 + 0)) u0 ++ (vcl (V (k * 3 + 1)) u1 ++ vcl (V (k * 3 + 2)) u2)) rfl ?qc1 ?qc2 ?qc3 ?qc4 ?qc5 ?qc6 ?_)
      case qc1 => rfl
      case qc2 =>
        intro j u hu
        rw [Addr.add_mid, Nat.zero_add]
        refine (cell_of_row _ _ j _ _ _ (heap_alloc_new _ _)).trans ?_
        rw [← hu, ← Array.getElem?_toList]
        rfl
      case qc3 =>
        intro u hu
        simp only [vcl, List.cons_append, List.nil_append, List.mem_cons, List.not_mem_nil, or_false] at hu
        rcases hu with rfl | rfl | rfl | rfl | rfl | rfl | rfl | rfl | rfl | rfl | rfl | rfl | rfl | rfl | rfl | rfl | rfl | rfl | rfl | rfl | rfl | rfl | rfl | rfl | rfl | rfl | rfl <;> rfl
      case qc4 => have : maxLen = 9223372036854775807 := rfl; omega
      case qc5 => omega
      case qc6 =>
        have h1 := HB.size
        simp only [World.size_alloc]
        omega
      intro v' w9 hown hgrow hnil
      clear a0 a1 a2 a3 a4 a5 a6 a7 a8 d0 d1 d2 d3 d4 d5 d6 d7 d8 e0 e1 e2 e3 e4 e5 e6 e7 e8
      generalize hYa : World.alloc Y2 _ = Ya at *
      have hba := (A1 hYa).1
      have hbool := owns_bool (owns_below HO.out hba) H0.out
      have hbl := owns_block HO.out
      have HB9 := (bstep HB hba).grown hgrow (by have h1 := HB.size; have h2 := hba.size; omega) hbl
      have KW0 := ((KU0.out.below hba).grown hgrow hbool)
      have KW1 := ((KU1.out.below hba).grown hgrow hbool)
      have KW2 := ((KU2.out.below hba).grown hgrow hbool)
      have HW := fun j hj => (((HU.out j hj).below hba).grown hgrow hbool)
      have eU : vtl V U (k * 3) ++ (vcl (V (k * 3)) u0 ++ (vcl (V (k * 3 + 1)) u1 ++ vcl (V (k * 3 + 2)) u2)) = vtl V (fun j => if j < k * 3 then U j else if j = k * 3 then u0 else if j = k * 3 + 1 then u1 else u2) ((k + 1) * 3) := by
        rw [show (k + 1) * 3 = k * 3 + 1 + 1 + 1 by omega, vtl_succ, vtl_succ, vtl_succ, List.append_assoc, List.append_assoc]
        rw [vtl_congr (V := V) (U := U) (U' := fun j => if j < k * 3 then U j else if j = k * 3 then u0 else if j = k * 3 + 1 then u1 else u2) (m := k * 3) (fun j hj => by rw [if_pos hj])]
        rw [if_neg (by omega), if_pos rfl, if_neg (by omega), if_neg (by omega), if_pos rfl, if_neg (by omega), if_neg (by omega), if_neg (by omega)]
      rw [eU] at hown
      clear hnil hgrow hYa hba hbool hbl eU HO HU H0 HB KU0 KU1 KU2 R6 R7 R9 R11
      go_wp2_with fail
      go_roundw
      case rel =>
        refine ⟨k + 1, _, _, hlt, by go_num, rfl, HB9, Lib.hid hown, Lib.hid (fun j hj => ?_), Lib.hid (fun h => absurd h (by omega))⟩
        by_cases h1 : j < k * 3
        · rw [if_pos h1]
          exact HW j h1
        · rw [if_neg h1]
          by_cases h2 : j = k * 3
          · rw [if_pos h2, h2]
            exact KW0
          · rw [if_neg h2]
            by_cases h3 : j = k * 3 + 1
            · rw [if_pos h3, h3]
              exact KW1
            · rw [if_neg h3, show j = k * 3 + 2 by omega]
              exact KW2
      case measure => simp [intOf]; omega
    · by_cases hmn : m = n
      · have hkm : k = n := by omega
        rw [hkm] at HO HU
        have HRES' := Lib.hid (fun (w' : World) (v : Value) (U : Nat → VS) (h1 : w'.ownsRow w.heap.size 192 27 v n (vtl V U (n * 3))) (h2 : ∀ j, j < n * 3 → RV w' (U j) (V j)) => show RES (.returned (.tuple #[v, .bool true])) w' by
          rw [← HRES.out]
          show if m = n then _ else _
          rw [if_pos hmn]
          exact ⟨v, U, rfl, h1, h2⟩)
        have hge : ¬ k < n := by omega
        clear HRES hmn hlt hkm
        go_wp2_with fail
        go_ret2
        exact ⟨HRES'.out wr yv U HO.out HU.out, HB⟩
      · have hkn : k < n := by omega
        obtain rfl : m = k := by omega
        have hq := HXX.out hkn
        have HRES' := Lib.hid (fun (w' : World) => show RES (.returned (.tuple #[.slice none 0 0, .bool false])) w' by
          rw [← HRES.out]
          show if m = n then _ else _
          rw [if_neg hmn])
        clear hk hlt hmn
        obtain ⟨v0, v1, v2⟩ := (HA.out.below HB) (m * 3 + 0) (by omega)
        obtain ⟨v3, v4, v5⟩ := (HA.out.below HB) (m * 3 + 1) (by omega)
        obtain ⟨v6, v7, v8⟩ := (HA.out.below HB) (m * 3 + 2) (by omega)
        rw [show o + (m * 3 + 0) * 3 = o + m * 9 by omega] at v0 v1 v2
        rw [show o + (m * 3 + 1) * 3 = o + m * 9 + 3 by omega] at v3 v4 v5
        rw [show o + (m * 3 + 2) * 3 = o + m * 9 + 6 by omega] at v6 v7 v8
        go_upto_region 5 with fail
        clear v0 v1 v2 v3 v4 v5 v6 v7 v8
        generalize hY : World.alloc wr _ = Y
        obtain ⟨hb, hsz, R6⟩ := A1 hY
        have R6 := Lib.hid R6
        replace HB := bstep HB hb
        have HO := Lib.hid (owns_below HO.out hb)
        have HU := Lib.hid (fun j hj => (HU.out j hj).below hb)
        clear hb hY hsz
        obtain ⟨c0, c1, c2, c3, c4, c5, c6, c7, c8⟩ := rowc9 R6.out
        go_wp2_with fail
        clear c0 c1 c2 c3 c4 c5 c6 c7 c8
        refine (HV.out (m * 3 + 0) (by omega) _).mono ?_
        rintro e w5 ⟨u0, rfl, hu, hb⟩
        replace HB := bstep HB hb
        have KU0 := Lib.hid hu
        have HO := Lib.hid (owns_below HO.out hb)
        have HU := Lib.hid (fun j hj => (HU.out j hj).below hb)
        have R6 := Lib.hid (keep hb R6.out)
        clear hb hu
        go_upto_region 6 with fail
        generalize hY : World.alloc w5 _ = Y0
        obtain ⟨hb, hsz, R7⟩ := A1 hY
        have R7 := Lib.hid R7
        replace HB := bstep HB hb
        have HO := Lib.hid (owns_below HO.out hb)
        have HU := Lib.hid (fun j hj => (HU.out j hj).below hb)
        have R6 := Lib.hid (keep hb R6.out)
        have KU0 := Lib.hid (KU0.out.below hb)
        clear hb hY hsz
        obtain ⟨c0, c1, c2, c3, c4, c5, c6, c7, c8⟩ := rowc9 R6.out
        go_wp2_with fail
        clear c0 c1 c2 c3 c4 c5 c6 c7 c8
        refine (HV.out (m * 3 + 1) (by omega) _).mono ?_
        rintro e w6 ⟨u1, rfl, hu, hb⟩
        replace HB := bstep HB hb
        have KU1 := Lib.hid hu
        have HO := Lib.hid (owns_below HO.out hb)
        have HU := Lib.hid (fun j hj => (HU.out j hj).below hb)
        have R6 := Lib.hid (keep hb R6.out)
        have R7 := Lib.hid (keep hb R7.out)
        have KU0 := Lib.hid (KU0.out.below hb)
        clear hb hu
        go_upto_region 7 with fail
        generalize hY : World.alloc w6 _ = Y1
        obtain ⟨hb, hsz, R9⟩ := A1 hY
        have R9 := Lib.hid R9
        replace HB := bstep HB hb
        have HO := Lib.hid (owns_below HO.out hb)
        have HU := Lib.hid (fun j hj => (HU.out j hj).below hb)
        have R6 := Lib.hid (keep hb R6.out)
        have R7 := Lib.hid (keep hb R7.out)
        have KU0 := Lib.hid (KU0.out.below hb)
        have KU1 := Lib.hid (KU1.out.below hb)
        clear hb hY hsz
        obtain ⟨c0, c1, c2, c3, c4, c5, c6, c7, c8⟩ := rowc9 R6.out
        go_wp2_with fail
        clear c0 c1 c2 c3 c4 c5 c6 c7 c8
        refine (HV.out (m * 3 + 2) (by omega) _).mono ?_
        rintro e w7 ⟨u2, rfl, hu, hb⟩
        replace HB := bstep HB hb
        have KU2 := Lib.hid hu
        have HO := Lib.hid (owns_below HO.out hb)
        have HU := Lib.hid (fun j hj => (HU.out j hj).below hb)
        have R6 := Lib.hid (keep hb R6.out)
        have R7 := Lib.hid (keep hb R7.out)
        have R9 := Lib.hid (keep hb R9.out)
        have KU0 := Lib.hid (KU0.out.below hb)
        have KU1 := Lib.hid (KU1.out.below hb)
        clear hb hu
        go_upto_region 8 with fail
        generalize hY : World.alloc w7 _ = Y2
        obtain ⟨hb, hsz, R11⟩ := A1 hY
        have R11 := Lib.hid R11
        replace HB := bstep HB hb
        have HO := Lib.hid (owns_below HO.out hb)
        have HU := Lib.hid (fun j hj => (HU.out j hj).below hb)
        have R6 := Lib.hid (keep hb R6.out)
        have R7 := Lib.hid (keep hb R7.out)
        have R9 := Lib.hid (keep hb R9.out)
        have KU0 := Lib.hid (KU0.out.below hb)
        have KU1 := Lib.hid (KU1.out.below hb)
        have KU2 := Lib.hid (KU2.out.below hb)
        clear hb hY hsz
        clear HO HU H0 KU0 KU1 KU2 R6 R7 R9 R11
        change (b (m * 3) && b (m * 3 + 1) && b (m * 3 + 2)) = false at hq
        cases h0 : b (m * 3) with
        | false =>
          clear hq
          go_wp2_with fail
          go_ret2
          exact ⟨HRES'.out _, HB⟩
        | true =>
          cases h1 : b (m * 3 + 1) with
          | false =>
            clear hq
            go_wp2_with fail
            go_ret2
            exact ⟨HRES'.out _, HB⟩
          | true =>
            have h2 : b (m * 3 + 2) = false := by simpa [h0, h1] using hq
            clear hq
            go_wp2_with fail
            go_ret2
            exact ⟨HRES'.out _, HB⟩
end Go.Proofs.YthkkdepppjiaeaaGreatDoor
