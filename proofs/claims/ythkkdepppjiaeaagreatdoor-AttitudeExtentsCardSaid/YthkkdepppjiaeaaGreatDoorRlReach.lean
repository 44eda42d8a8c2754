/- A PART OF THE PROOF, JOINED OUT OF 2 TEXTS. -/
import Derived.Test.YthkkdepppjiaeaaGreatDoorRkStart
import Derived.BigRegion
/- The reference of layer 16: Reach. -/
namespace Go.Proofs.YthkkdepppjiaeaaGreatDoor
open Go.RowKit Go.Shelf Go.Sort

attribute [local go_sem] Oper.semAt_some

theorem tr16_size : (Tryz.prog.info? 192).map (·.size) = some 27 := by kernel_rfl

/-- The store of a triangle, kept closed for the walk. -/
def storeTr (x y : Value) := Instr.storeAt 192 x y
theorem storeAt_tr (x y : Value) : Instr.storeAt 192 x y = storeTr x y := rfl
/-- The load of a triangle, kept closed for the walk. -/
def loadTr (x : Value) := Instr.loadAt 192 x
theorem loadAt_tr (x : Value) : Instr.loadAt 192 x = loadTr x := rfl
/-- A triangle is stored whole. -/
theorem run_storeAt_tr (w : World) (g : Nat) (b0 b1 b2 b3 b4 b5 b6 b7 b8 : Bool) (a0 a1 a2 a3 a4 a5 a6 a7 a8 a9 a10 a11 a12 a13 a14 a15 a16 a17 : Option Addr) (n0 n1 n2 n3 n4 n5 n6 n7 n8 n9 n10 n11 n12 n13 n14 n15 n16 n17 c0 c1 c2 c3 c4 c5 c6 c7 c8 c9 c10 c11 c12 c13 c14 c15 c16 c17 : Nat) (ht : w.there g 0 27) :
    (storeTr (.pointer (some ⟨g, 0, none⟩)) (.agg #[.bool b0, .slice a0 n0 c0, .slice a1 n1 c1, .bool b1, .slice a2 n2 c2, .slice a3 n3 c3, .bool b2, .slice a4 n4 c4, .slice a5 n5 c5, .bool b3, .slice a6 n6 c6, .slice a7 n7 c7, .bool b4, .slice a8 n8 c8, .slice a9 n9 c9, .bool b5, .slice a10 n10 c10, .slice a11 n11 c11, .bool b6, .slice a12 n12 c12, .slice a13 n13 c13, .bool b7, .slice a14 n14 c14, .slice a15 n15 c15, .bool b8, .slice a16 n16 c16, .slice a17 n17 c17])).run Tryz.prog w = .ok () (w.setCells g 0 [.bool b0, .slice a0 n0 c0, .slice a1 n1 c1, .bool b1, .slice a2 n2 c2, .slice a3 n3 c3, .bool b2, .slice a4 n4 c4, .slice a5 n5 c5, .bool b3, .slice a6 n6 c6, .slice a7 n7 c7, .bool b4, .slice a8 n8 c8, .slice a9 n9 c9, .bool b5, .slice a10 n10 c10, .slice a11 n11 c11, .bool b6, .slice a12 n12 c12, .slice a13 n13 c13, .bool b7, .slice a14 n14 c14, .slice a15 n15 c15, .bool b8, .slice a16 n16 c16, .slice a17 n17 c17]) :=
  run_storeAt_mid w g 0 _ _ ht tr16_size (by simp [Value.oneCell'])

/-- A triangle is stored whole into a new block. -/
theorem run_storeAt_trN (w : World) (b0 b1 b2 b3 b4 b5 b6 b7 b8 : Bool) (a0 a1 a2 a3 a4 a5 a6 a7 a8 a9 a10 a11 a12 a13 a14 a15 a16 a17 : Option Addr) (n0 n1 n2 n3 n4 n5 n6 n7 n8 n9 n10 n11 n12 n13 n14 n15 n16 n17 c0 c1 c2 c3 c4 c5 c6 c7 c8 c9 c10 c11 c12 c13 c14 c15 c16 c17 : Nat) :
    (storeTr (.pointer (some ⟨w.heap.size, 0, none⟩)) (.agg #[.bool b0, .slice a0 n0 c0, .slice a1 n1 c1, .bool b1, .slice a2 n2 c2, .slice a3 n3 c3, .bool b2, .slice a4 n4 c4, .slice a5 n5 c5, .bool b3, .slice a6 n6 c6, .slice a7 n7 c7, .bool b4, .slice a8 n8 c8, .slice a9 n9 c9, .bool b5, .slice a10 n10 c10, .slice a11 n11 c11, .bool b6, .slice a12 n12 c12, .slice a13 n13 c13, .bool b7, .slice a14 n14 c14, .slice a15 n15 c15, .bool b8, .slice a16 n16 c16, .slice a17 n17 c17])).run Tryz.prog (w.alloc (.cells #[.bool false, .slice none 0 0, .slice none 0 0, .bool false, .slice none 0 0, .slice none 0 0, .bool false, .slice none 0 0, .slice none 0 0, .bool false, .slice none 0 0, .slice none 0 0, .bool false, .slice none 0 0, .slice none 0 0, .bool false, .slice none 0 0, .slice none 0 0, .bool false, .slice none 0 0, .slice none 0 0, .bool false, .slice none 0 0, .slice none 0 0, .bool false, .slice none 0 0, .slice none 0 0] 192 (0, 0))) = .ok () (w.alloc (.cells #[.bool b0, .slice a0 n0 c0, .slice a1 n1 c1, .bool b1, .slice a2 n2 c2, .slice a3 n3 c3, .bool b2, .slice a4 n4 c4, .slice a5 n5 c5, .bool b3, .slice a6 n6 c6, .slice a7 n7 c7, .bool b4, .slice a8 n8 c8, .slice a9 n9 c9, .bool b5, .slice a10 n10 c10, .slice a11 n11 c11, .bool b6, .slice a12 n12 c12, .slice a13 n13 c13, .bool b7, .slice a14 n14 c14, .slice a15 n15 c15, .bool b8, .slice a16 n16 c16, .slice a17 n17 c17] 192 (0, 0))) := by
  have h := run_storeAt_tr (w.alloc (.cells #[.bool false, .slice none 0 0, .slice none 0 0, .bool false, .slice none 0 0, .slice none 0 0, .bool false, .slice none 0 0, .slice none 0 0, .bool false, .slice none 0 0, .slice none 0 0, .bool false, .slice none 0 0, .slice none 0 0, .bool false, .slice none 0 0, .slice none 0 0, .bool false, .slice none 0 0, .slice none 0 0, .bool false, .slice none 0 0, .slice none 0 0, .bool false, .slice none 0 0, .slice none 0 0] 192 (0, 0))) w.heap.size b0 b1 b2 b3 b4 b5 b6 b7 b8 a0 a1 a2 a3 a4 a5 a6 a7 a8 a9 a10 a11 a12 a13 a14 a15 a16 a17 n0 n1 n2 n3 n4 n5 n6 n7 n8 n9 n10 n11 n12 n13 n14 n15 n16 n17 c0 c1 c2 c3 c4 c5 c6 c7 c8 c9 c10 c11 c12 c13 c14 c15 c16 c17 (there_row (heap_alloc_new _ _))
  have e := setCells_new w 192 [.bool b0, .slice a0 n0 c0, .slice a1 n1 c1, .bool b1, .slice a2 n2 c2, .slice a3 n3 c3, .bool b2, .slice a4 n4 c4, .slice a5 n5 c5, .bool b3, .slice a6 n6 c6, .slice a7 n7 c7, .bool b4, .slice a8 n8 c8, .slice a9 n9 c9, .bool b5, .slice a10 n10 c10, .slice a11 n11 c11, .bool b6, .slice a12 n12 c12, .slice a13 n13 c13, .bool b7, .slice a14 n14 c14, .slice a15 n15 c15, .bool b8, .slice a16 n16 c16, .slice a17 n17 c17] [] [.bool false, .slice none 0 0, .slice none 0 0, .bool false, .slice none 0 0, .slice none 0 0, .bool false, .slice none 0 0, .slice none 0 0, .bool false, .slice none 0 0, .slice none 0 0, .bool false, .slice none 0 0, .slice none 0 0, .bool false, .slice none 0 0, .slice none 0 0, .bool false, .slice none 0 0, .slice none 0 0, .bool false, .slice none 0 0, .slice none 0 0, .bool false, .slice none 0 0, .slice none 0 0] rfl
  exact h.trans (congrArg (Result.ok ()) e)



theorem run_loadTr {w : World} {g o : Nat} {cs : List Value} (h : w.rangeAt g o cs) (hs : cs.length = 27) : (loadTr (.pointer (some ⟨g, o, none⟩))).run Tryz.prog w = .ok (.agg cs.toArray) w := by
  unfold loadTr
  exact run_loadAt_mid w g o _ cs _ h Tryz.underlying192 rfl (by rw [hs]; exact tr16_size)
theorem run_loadTrRow {w : World} {g : Nat} {cs : Array Value} {t : TypeId} (h : w.heap[g]? = some (.cells cs t (0, 0))) (hs : cs.size = 27) : (loadTr (.pointer (some ⟨g, 0, none⟩))).run Tryz.prog w = .ok (.agg cs) w :=
  run_loadTr (cs := cs.toList) (fun j v hv => by rw [Nat.zero_add, cell_of_row w g j _ _ _ h, ← hv, Array.getElem?_toList]) (by simpa using hs)
attribute [local go_sem ↓ high] storeAt_tr loadAt_tr
attribute [local go_sem high] run_storeAt_tr run_storeAt_trN

theorem pair_end {V Z : World} {g f : Nat} {x0 y0 p0 q0 : Bool} {x1 x2 x3 x4 x5 x6 x7 x8 y1 y2 y3 y4 y5 y6 y7 y8 p1 p2 p3 p4 p5 p6 p7 p8 q1 q2 q3 q4 q5 q6 q7 q8 : Value} {t t' : TypeId} (hZ : (((((((((((((((((((V.setCell ⟨g, 0, none⟩ (.bool p0)).setCell ⟨g, 1, none⟩ p1).setCell ⟨g, 2, none⟩ p2).setCell ⟨g, 3, none⟩ p3).setCell ⟨g, 4, none⟩ p4).setCell ⟨g, 5, none⟩ p5).setCell ⟨g, 6, none⟩ p6).setCell ⟨g, 7, none⟩ p7).setCell ⟨g, 8, none⟩ p8).setCell ⟨f, 0, none⟩ (.bool q0)).setCell ⟨f, 1, none⟩ q1).setCell ⟨f, 2, none⟩ q2).setCell ⟨f, 3, none⟩ q3).setCell ⟨f, 4, none⟩ q4).setCell ⟨f, 5, none⟩ q5).setCell ⟨f, 6, none⟩ q6).setCell ⟨f, 7, none⟩ q7).setCell ⟨f, 8, none⟩ q8)).drew = Z) (hne : f ≠ g)
    (h4 : V.heap[g]? = some (.cells #[.bool x0, x1, x2, x3, x4, x5, x6, x7, x8] t (0, 0))) (h5 : V.heap[f]? = some (.cells #[.bool y0, y1, y2, y3, y4, y5, y6, y7, y8] t' (0, 0))) :
    Z.heap[g]? = some (.cells #[.bool p0, p1, p2, p3, p4, p5, p6, p7, p8] t (0, 0)) ∧ Z.heap[f]? = some (.cells #[.bool q0, q1, q2, q3, q4, q5, q6, q7, q8] t' (0, 0)) ∧ (∀ s a, RV V s a → RV Z s a) ∧ (∀ B w, B ≤ g → B ≤ f → Below B w V → Below B w Z) := by
  subst hZ
  have h6 := store9_other hne h5 (.bool p0) p1 p2 p3 p4 p5 p6 p7 p8
  exact ⟨oldD (store9_other (Ne.symm hne) (store9 h4 _ _ _ _ _ _ _ _ _) _ _ _ _ _ _ _ _ _), oldD (store9 h6 _ _ _ _ _ _ _ _ _), fun s a h => ((h.store9 h4).store9 h6).below (Below.drew (Below.refl _ _)), fun B w b1 b2 h => Below.drew (store9_below (store9_below h b1 _ _ _ _ _ _ _ _ _) b2 _ _ _ _ _ _ _ _ _)⟩

/-- The least and the greatest coordinates of vectors, one by one. -/
def lowR (F : Nat → V3) : Nat → V3
  | 0 => F 0
  | m + 1 => ⟨lst16 (lowR F m).x (F m).x, lst16 (lowR F m).y (F m).y, lst16 (lowR F m).z (F m).z⟩
def highR (F : Nat → V3) : Nat → V3
  | 0 => F 0
  | m + 1 => ⟨mst16 (highR F m).x (F m).x, mst16 (highR F m).y (F m).y, mst16 (highR F m).z (F m).z⟩
theorem sz_lst16 {k : Nat} {x y : Rat} (hx : Sz k x) (hy : Sz k y) : Sz k (lst16 x y) := by unfold lst16; split <;> assumption
theorem sz_mst16 {k : Nat} {x y : Rat} (hx : Sz k x) (hy : Sz k y) : Sz k (mst16 x y) := by unfold mst16; split <;> assumption
theorem sz_lowR {K n : Nat} {F : Nat → V3} (hF : ∀ v, v < n → SzV K (F v)) (hn : 0 < n) : ∀ m, m ≤ n → SzV K (lowR F m) ∧ SzV K (highR F m)
  | 0, _ => ⟨hF 0 hn, hF 0 hn⟩
  | m + 1, h => by
    obtain ⟨h1, h2⟩ := sz_lowR hF hn m (by omega)
    have h3 := hF m (by omega)
    exact ⟨⟨sz_lst16 h1.1 h3.1, sz_lst16 h1.2.1 h3.2.1, sz_lst16 h1.2.2 h3.2.2⟩, ⟨sz_mst16 h2.1 h3.1, sz_mst16 h2.2.1 h3.2.1, sz_mst16 h2.2.2 h3.2.2⟩⟩
/-- The cells of one triangle out of the row. -/
theorem LAt.range {W : World} {g cap n : Nat} {F : Nat → V3} {U : Nat → VS} (h : LAt W g cap n F U) {i : Nat} (hi : i < n) : W.rangeAt g (i * 27) (vcl (F (i * 3)) (U (i * 3)) ++ (vcl (F (i * 3 + 1)) (U (i * 3 + 1)) ++ vcl (F (i * 3 + 2)) (U (i * 3 + 2)))) := by
  intro j v hv
  have hj : j < 27 := (List.getElem?_eq_some_iff.1 hv).1
  by_cases h1 : j < 9
  · rw [List.getElem?_append_left (by exact h1)] at hv
    rw [show i * 27 + j = (i * 3) * 9 + j by omega, h.cell (v := i * 3) (by omega) h1]
    exact hv
  · rw [List.getElem?_append_right (by exact Nat.le_of_not_lt h1)] at hv
    have hl : (vcl (F (i * 3)) (U (i * 3))).length = 9 := rfl
    rw [hl] at hv
    by_cases h2 : j - 9 < 9
    · rw [List.getElem?_append_left (by exact h2)] at hv
      rw [show i * 27 + j = (i * 3 + 1) * 9 + (j - 9) by omega, h.cell (v := i * 3 + 1) (by omega) h2]
      exact hv
    · rw [List.getElem?_append_right (by exact Nat.le_of_not_lt h2)] at hv
      have hl2 : (vcl (F (i * 3 + 1)) (U (i * 3 + 1))).length = 9 := rfl
      rw [hl2] at hv
      rw [show i * 27 + j = (i * 3 + 2) * 9 + (j - 9 - 9) by omega, h.cell (v := i * 3 + 2) (by omega) (by omega)]
      exact hv


set_option maxRecDepth 100000 in
set_option maxHeartbeats 16000000 in
theorem r16_Reach (g cap n : Nat) (F : Nat → V3) (U : Nat → VS) (w : World) (hn1 : 1 ≤ n) (hn2 : n ≤ 512) (hL : LAt w g cap n F U) (hU : ∀ v, v < n * 3 → RV w (U v) (F v)) (hz : ∀ v, v < n * 3 → SzV 20000000 (F v)) :
    Calls Tryz.prog 86 #[.slice (some ⟨g, 0, none⟩) n cap] w fun e w' => ∃ sl sh : VS, e = .returned (.tuple #[.agg #[.bool (sgB (lowR F (n * 3)).x.num), .slice sl.x.p.A sl.x.p.n sl.x.p.c, .slice sl.x.d.A sl.x.d.n sl.x.d.c, .bool (sgB (lowR F (n * 3)).y.num), .slice sl.y.p.A sl.y.p.n sl.y.p.c, .slice sl.y.d.A sl.y.d.n sl.y.d.c, .bool (sgB (lowR F (n * 3)).z.num), .slice sl.z.p.A sl.z.p.n sl.z.p.c, .slice sl.z.d.A sl.z.d.n sl.z.d.c], .agg #[.bool (sgB (highR F (n * 3)).x.num), .slice sh.x.p.A sh.x.p.n sh.x.p.c, .slice sh.x.d.A sh.x.d.n sh.x.d.c, .bool (sgB (highR F (n * 3)).y.num), .slice sh.y.p.A sh.y.p.n sh.y.p.c, .slice sh.y.d.A sh.y.d.n sh.y.d.c, .bool (sgB (highR F (n * 3)).z.num), .slice sh.z.p.A sh.z.p.n sh.z.p.c, .slice sh.z.d.A sh.z.d.n sh.z.d.c]]) ∧ RV w' sl (lowR F (n * 3)) ∧ RV w' sh (highR F (n * 3)) ∧ Below w.heap.size w w' := by
  have HZ := Lib.hid hz
  have HK := Lib.hid (fun m (hm : m ≤ n * 3) => sz_lowR hz (by omega) m hm)
  clear hz
  go_enter Tryz.func86, Tryz.ntmps86
  go_upto_region 1 with fail
  generalize hW : (World.alloc w _).alloc _ = W
  obtain ⟨hB, hsz, R2, R3⟩ := A2 hW
  have R2 := Lib.hid R2
  have R3 := Lib.hid R3
  clear hW hsz
  have HL := Lib.hid (hL.below hB)
  have HU := Lib.hid (fun v hv => (hU v hv).below hB)
  have hgl : g < W.heap.size := by
    obtain ⟨cur, h1, _⟩ := HL.out
    exact lt_of_row h1
  clear hL hU
  have hn0 : (0 : Int) < (n : Int) := by omega
  have lc0 := HL.out.cell (v := 0) (r := 0) (by omega) (by decide)
  have lc1 := HL.out.cell (v := 0) (r := 1) (by omega) (by decide)
  have lc2 := HL.out.cell (v := 0) (r := 2) (by omega) (by decide)
  have lc3 := HL.out.cell (v := 0) (r := 3) (by omega) (by decide)
  have lc4 := HL.out.cell (v := 0) (r := 4) (by omega) (by decide)
  have lc5 := HL.out.cell (v := 0) (r := 5) (by omega) (by decide)
  have lc6 := HL.out.cell (v := 0) (r := 6) (by omega) (by decide)
  have lc7 := HL.out.cell (v := 0) (r := 7) (by omega) (by decide)
  have lc8 := HL.out.cell (v := 0) (r := 8) (by omega) (by decide)
  simp only [Nat.zero_mul, Nat.zero_add, vcl, List.getElem?_cons_succ, List.getElem?_cons_zero] at lc0 lc1 lc2 lc3 lc4 lc5 lc6 lc7 lc8
  go_cut [4, 5] (fun x y wr => ∃ (p q : Nat), x = .pointer (some ⟨p, 0, none⟩) ∧ y = .pointer (some ⟨q, 0, none⟩) ∧ Hid (p ≠ q) ∧ Hid (W.heap.size ≤ p) ∧ Hid (W.heap.size ≤ q) ∧ Hid (Below W.heap.size W wr) ∧ Hid (wr.heap[p]? = some (.cells #[.bool (sgB (F 0).x.num), .slice (U 0).x.p.A (U 0).x.p.n (U 0).x.p.c, .slice (U 0).x.d.A (U 0).x.d.n (U 0).x.d.c, .bool (sgB (F 0).y.num), .slice (U 0).y.p.A (U 0).y.p.n (U 0).y.p.c, .slice (U 0).y.d.A (U 0).y.d.n (U 0).y.d.c, .bool (sgB (F 0).z.num), .slice (U 0).z.p.A (U 0).z.p.n (U 0).z.p.c, .slice (U 0).z.d.A (U 0).z.d.n (U 0).z.d.c] 116 (0, 0))) ∧ Hid (wr.heap[q]? = some (.cells #[.bool (sgB (F 0).x.num), .slice (U 0).x.p.A (U 0).x.p.n (U 0).x.p.c, .slice (U 0).x.d.A (U 0).x.d.n (U 0).x.d.c, .bool (sgB (F 0).y.num), .slice (U 0).y.p.A (U 0).y.p.n (U 0).y.p.c, .slice (U 0).y.d.A (U 0).y.d.n (U 0).y.d.c, .bool (sgB (F 0).z.num), .slice (U 0).z.p.A (U 0).z.p.n (U 0).z.p.c, .slice (U 0).z.d.A (U 0).z.d.n (U 0).z.d.c] 116 (0, 0))))
  case first =>
    go_region
    all_goals
      go_wp2_with fail
      go_meet
      have hA := A2 (w := W) (a := .cells #[.bool (sgB (F 0).x.num), .slice (U 0).x.p.A (U 0).x.p.n (U 0).x.p.c, .slice (U 0).x.d.A (U 0).x.d.n (U 0).x.d.c, .bool (sgB (F 0).y.num), .slice (U 0).y.p.A (U 0).y.p.n (U 0).y.p.c, .slice (U 0).y.d.A (U 0).y.d.n (U 0).y.d.c, .bool (sgB (F 0).z.num), .slice (U 0).z.p.A (U 0).z.p.n (U 0).z.p.c, .slice (U 0).z.d.A (U 0).z.d.n (U 0).z.d.c] 116 (0, 0)) (b := .cells #[.bool (sgB (F 0).x.num), .slice (U 0).x.p.A (U 0).x.p.n (U 0).x.p.c, .slice (U 0).x.d.A (U 0).x.d.n (U 0).x.d.c, .bool (sgB (F 0).y.num), .slice (U 0).y.p.A (U 0).y.p.n (U 0).y.p.c, .slice (U 0).y.d.A (U 0).y.d.n (U 0).y.d.c, .bool (sgB (F 0).z.num), .slice (U 0).z.p.A (U 0).z.p.n (U 0).z.p.c, .slice (U 0).z.d.A (U 0).z.d.n (U 0).z.d.c] 116 (0, 0)) rfl
      first
      | exact ⟨_, _, rfl, rfl, Lib.hid (by omega), Lib.hid (Nat.le_refl _), Lib.hid (Nat.le_succ _), Lib.hid (by first | exact hA.1 | exact hA.1.drew), Lib.hid hA.2.2.1, Lib.hid hA.2.2.2⟩
      | exact ⟨_, _, rfl, rfl, Lib.hid (by omega), Lib.hid (Nat.le_succ _), Lib.hid (Nat.le_refl _), Lib.hid (by first | exact hA.1 | exact hA.1.drew), Lib.hid hA.2.2.2, Lib.hid hA.2.2.1⟩
  case rest =>
    clear lc0 lc1 lc2 lc3 lc4 lc5 lc6 lc7 lc8 hn0
    obtain ⟨p, q, rfl, rfl, npq, LBp, LBq, HBW, R4, R5⟩ := hcut
    have hwW := hB.size
    have h3W := lt_of_row R3.out
    have KL := Lib.hid ((HU.out 0 (by omega)).below HBW.out)
    have KH := KL
    have n2p := Lib.hid (show w.heap.size ≠ p by have := LBp.out; omega)
    have n2q := Lib.hid (show w.heap.size ≠ q by have := LBq.out; omega)
    go_wp2_with fail
    go_loopw [20] (fun x wr => ∃ (i : Nat) (sl sh : VS), i ≤ n ∧ x = .int .i64 i ∧ Hid (Below W.heap.size W wr) ∧ Hid (wr.heap[p]? = some (.cells #[.bool (sgB (lowR F (i * 3)).x.num), .slice sl.x.p.A sl.x.p.n sl.x.p.c, .slice sl.x.d.A sl.x.d.n sl.x.d.c, .bool (sgB (lowR F (i * 3)).y.num), .slice sl.y.p.A sl.y.p.n sl.y.p.c, .slice sl.y.d.A sl.y.d.n sl.y.d.c, .bool (sgB (lowR F (i * 3)).z.num), .slice sl.z.p.A sl.z.p.n sl.z.p.c, .slice sl.z.d.A sl.z.d.n sl.z.d.c] 116 (0, 0))) ∧ Hid (wr.heap[q]? = some (.cells #[.bool (sgB (highR F (i * 3)).x.num), .slice sh.x.p.A sh.x.p.n sh.x.p.c, .slice sh.x.d.A sh.x.d.n sh.x.d.c, .bool (sgB (highR F (i * 3)).y.num), .slice sh.y.p.A sh.y.p.n sh.y.p.c, .slice sh.y.d.A sh.y.d.n sh.y.d.c, .bool (sgB (highR F (i * 3)).z.num), .slice sh.z.p.A sh.z.p.n sh.z.p.c, .slice sh.z.d.A sh.z.d.n sh.z.d.c] 116 (0, 0))) ∧ Hid (RV wr sl (lowR F (i * 3))) ∧ Hid (RV wr sh (highR F (i * 3)))) (fun x _ => n - (intOf x).toNat)
    case atStart => exact ⟨0, U 0, U 0, by omega, rfl, HBW, R4, R5, KL, KH⟩
    case round =>
      clear HBW R4 R5 KL KH
      obtain ⟨i, sl, sh, hi, rfl, HBW, R4, R5, KL, KH⟩ := hrel
      by_cases hlt : i < n
      · have LT : (loadTr (.pointer (some ⟨g, i * 27, none⟩))).run Tryz.prog wr = .ok (.agg #[.bool (sgB (F (i * 3)).x.num), .slice (U (i * 3)).x.p.A (U (i * 3)).x.p.n (U (i * 3)).x.p.c, .slice (U (i * 3)).x.d.A (U (i * 3)).x.d.n (U (i * 3)).x.d.c, .bool (sgB (F (i * 3)).y.num), .slice (U (i * 3)).y.p.A (U (i * 3)).y.p.n (U (i * 3)).y.p.c, .slice (U (i * 3)).y.d.A (U (i * 3)).y.d.n (U (i * 3)).y.d.c, .bool (sgB (F (i * 3)).z.num), .slice (U (i * 3)).z.p.A (U (i * 3)).z.p.n (U (i * 3)).z.p.c, .slice (U (i * 3)).z.d.A (U (i * 3)).z.d.n (U (i * 3)).z.d.c, .bool (sgB (F (i * 3 + 1)).x.num), .slice (U (i * 3 + 1)).x.p.A (U (i * 3 + 1)).x.p.n (U (i * 3 + 1)).x.p.c, .slice (U (i * 3 + 1)).x.d.A (U (i * 3 + 1)).x.d.n (U (i * 3 + 1)).x.d.c, .bool (sgB (F (i * 3 + 1)).y.num), .slice (U (i * 3 + 1)).y.p.A (U (i * 3 + 1)).y.p.n (U (i * 3 + 1)).y.p.c, .slice (U (i * 3 + 1)).y.d.A (U (i * 3 + 1)).y.d.n (U (i * 3 + 1)).y.d.c, .bool (sgB (F (i * 3 + 1)).z.num), .slice (U (i * 3 + 1)).z.p.A (U (i * 3 + 1)).z.p.n (U (i * 3 + 1)).z.p.c, .slice (U (i * 3 + 1)).z.d.A (U (i * 3 + 1)).z.d.n (U (i * 3 + 1)).z.d.c, .bool (sgB (F (i * 3 + 2)).x.num), .slice (U (i * 3 + 2)).x.p.A (U (i * 3 + 2)).x.p.n (U (i * 3 + 2)).x.p.c, .slice (U (i * 3 + 2)).x.d.A (U (i * 3 + 2)).x.d.n (U (i * 3 + 2)).x.d.c, .bool (sgB (F (i * 3 + 2)).y.num), .slice (U (i * 3 + 2)).y.p.A (U (i * 3 + 2)).y.p.n (U (i * 3 + 2)).y.p.c, .slice (U (i * 3 + 2)).y.d.A (U (i * 3 + 2)).y.d.n (U (i * 3 + 2)).y.d.c, .bool (sgB (F (i * 3 + 2)).z.num), .slice (U (i * 3 + 2)).z.p.A (U (i * 3 + 2)).z.p.n (U (i * 3 + 2)).z.p.c, .slice (U (i * 3 + 2)).z.d.A (U (i * 3 + 2)).z.d.n (U (i * 3 + 2)).z.d.c]) wr := run_loadTr ((HL.out.below HBW.out).range hlt) rfl
        have ij0 : ∀ w, (Instr.index 192 (.agg #[.bool (sgB (F (i * 3)).x.num), .slice (U (i * 3)).x.p.A (U (i * 3)).x.p.n (U (i * 3)).x.p.c, .slice (U (i * 3)).x.d.A (U (i * 3)).x.d.n (U (i * 3)).x.d.c, .bool (sgB (F (i * 3)).y.num), .slice (U (i * 3)).y.p.A (U (i * 3)).y.p.n (U (i * 3)).y.p.c, .slice (U (i * 3)).y.d.A (U (i * 3)).y.d.n (U (i * 3)).y.d.c, .bool (sgB (F (i * 3)).z.num), .slice (U (i * 3)).z.p.A (U (i * 3)).z.p.n (U (i * 3)).z.p.c, .slice (U (i * 3)).z.d.A (U (i * 3)).z.d.n (U (i * 3)).z.d.c, .bool (sgB (F (i * 3 + 1)).x.num), .slice (U (i * 3 + 1)).x.p.A (U (i * 3 + 1)).x.p.n (U (i * 3 + 1)).x.p.c, .slice (U (i * 3 + 1)).x.d.A (U (i * 3 + 1)).x.d.n (U (i * 3 + 1)).x.d.c, .bool (sgB (F (i * 3 + 1)).y.num), .slice (U (i * 3 + 1)).y.p.A (U (i * 3 + 1)).y.p.n (U (i * 3 + 1)).y.p.c, .slice (U (i * 3 + 1)).y.d.A (U (i * 3 + 1)).y.d.n (U (i * 3 + 1)).y.d.c, .bool (sgB (F (i * 3 + 1)).z.num), .slice (U (i * 3 + 1)).z.p.A (U (i * 3 + 1)).z.p.n (U (i * 3 + 1)).z.p.c, .slice (U (i * 3 + 1)).z.d.A (U (i * 3 + 1)).z.d.n (U (i * 3 + 1)).z.d.c, .bool (sgB (F (i * 3 + 2)).x.num), .slice (U (i * 3 + 2)).x.p.A (U (i * 3 + 2)).x.p.n (U (i * 3 + 2)).x.p.c, .slice (U (i * 3 + 2)).x.d.A (U (i * 3 + 2)).x.d.n (U (i * 3 + 2)).x.d.c, .bool (sgB (F (i * 3 + 2)).y.num), .slice (U (i * 3 + 2)).y.p.A (U (i * 3 + 2)).y.p.n (U (i * 3 + 2)).y.p.c, .slice (U (i * 3 + 2)).y.d.A (U (i * 3 + 2)).y.d.n (U (i * 3 + 2)).y.d.c, .bool (sgB (F (i * 3 + 2)).z.num), .slice (U (i * 3 + 2)).z.p.A (U (i * 3 + 2)).z.p.n (U (i * 3 + 2)).z.p.c, .slice (U (i * 3 + 2)).z.d.A (U (i * 3 + 2)).z.d.n (U (i * 3 + 2)).z.d.c]) (.int .i64 0)).run Tryz.prog w = .ok (.agg #[.bool (sgB (F (i * 3)).x.num), .slice (U (i * 3)).x.p.A (U (i * 3)).x.p.n (U (i * 3)).x.p.c, .slice (U (i * 3)).x.d.A (U (i * 3)).x.d.n (U (i * 3)).x.d.c, .bool (sgB (F (i * 3)).y.num), .slice (U (i * 3)).y.p.A (U (i * 3)).y.p.n (U (i * 3)).y.p.c, .slice (U (i * 3)).y.d.A (U (i * 3)).y.d.n (U (i * 3)).y.d.c, .bool (sgB (F (i * 3)).z.num), .slice (U (i * 3)).z.p.A (U (i * 3)).z.p.n (U (i * 3)).z.p.c, .slice (U (i * 3)).z.d.A (U (i * 3)).z.d.n (U (i * 3)).z.d.c]) w := fun _ => by kernel_rfl
        have ij1 : ∀ w, (Instr.index 192 (.agg #[.bool (sgB (F (i * 3)).x.num), .slice (U (i * 3)).x.p.A (U (i * 3)).x.p.n (U (i * 3)).x.p.c, .slice (U (i * 3)).x.d.A (U (i * 3)).x.d.n (U (i * 3)).x.d.c, .bool (sgB (F (i * 3)).y.num), .slice (U (i * 3)).y.p.A (U (i * 3)).y.p.n (U (i * 3)).y.p.c, .slice (U (i * 3)).y.d.A (U (i * 3)).y.d.n (U (i * 3)).y.d.c, .bool (sgB (F (i * 3)).z.num), .slice (U (i * 3)).z.p.A (U (i * 3)).z.p.n (U (i * 3)).z.p.c, .slice (U (i * 3)).z.d.A (U (i * 3)).z.d.n (U (i * 3)).z.d.c, .bool (sgB (F (i * 3 + 1)).x.num), .slice (U (i * 3 + 1)).x.p.A (U (i * 3 + 1)).x.p.n (U (i * 3 + 1)).x.p.c, .slice (U (i * 3 + 1)).x.d.A (U (i * 3 + 1)).x.d.n (U (i * 3 + 1)).x.d.c, .bool (sgB (F (i * 3 + 1)).y.num), .slice (U (i * 3 + 1)).y.p.A (U (i * 3 + 1)).y.p.n (U (i * 3 + 1)).y.p.c, .slice (U (i * 3 + 1)).y.d.A (U (i * 3 + 1)).y.d.n (U (i * 3 + 1)).y.d.c, .bool (sgB (F (i * 3 + 1)).z.num), .slice (U (i * 3 + 1)).z.p.A (U (i * 3 + 1)).z.p.n (U (i * 3 + 1)).z.p.c, .slice (U (i * 3 + 1)).z.d.A (U (i * 3 + 1)).z.d.n (U (i * 3 + 1)).z.d.c, .bool (sgB (F (i * 3 + 2)).x.num), .slice (U (i * 3 + 2)).x.p.A (U (i * 3 + 2)).x.p.n (U (i * 3 + 2)).x.p.c, .slice (U (i * 3 + 2)).x.d.A (U (i * 3 + 2)).x.d.n (U (i * 3 + 2)).x.d.c, .bool (sgB (F (i * 3 + 2)).y.num), .slice (U (i * 3 + 2)).y.p.A (U (i * 3 + 2)).y.p.n (U (i * 3 + 2)).y.p.c, .slice (U (i * 3 + 2)).y.d.A (U (i * 3 + 2)).y.d.n (U (i * 3 + 2)).y.d.c, .bool (sgB (F (i * 3 + 2)).z.num), .slice (U (i * 3 + 2)).z.p.A (U (i * 3 + 2)).z.p.n (U (i * 3 + 2)).z.p.c, .slice (U (i * 3 + 2)).z.d.A (U (i * 3 + 2)).z.d.n (U (i * 3 + 2)).z.d.c]) (.int .i64 1)).run Tryz.prog w = .ok (.agg #[.bool (sgB (F (i * 3 + 1)).x.num), .slice (U (i * 3 + 1)).x.p.A (U (i * 3 + 1)).x.p.n (U (i * 3 + 1)).x.p.c, .slice (U (i * 3 + 1)).x.d.A (U (i * 3 + 1)).x.d.n (U (i * 3 + 1)).x.d.c, .bool (sgB (F (i * 3 + 1)).y.num), .slice (U (i * 3 + 1)).y.p.A (U (i * 3 + 1)).y.p.n (U (i * 3 + 1)).y.p.c, .slice (U (i * 3 + 1)).y.d.A (U (i * 3 + 1)).y.d.n (U (i * 3 + 1)).y.d.c, .bool (sgB (F (i * 3 + 1)).z.num), .slice (U (i * 3 + 1)).z.p.A (U (i * 3 + 1)).z.p.n (U (i * 3 + 1)).z.p.c, .slice (U (i * 3 + 1)).z.d.A (U (i * 3 + 1)).z.d.n (U (i * 3 + 1)).z.d.c]) w := fun _ => by kernel_rfl
        have ij2 : ∀ w, (Instr.index 192 (.agg #[.bool (sgB (F (i * 3)).x.num), .slice (U (i * 3)).x.p.A (U (i * 3)).x.p.n (U (i * 3)).x.p.c, .slice (U (i * 3)).x.d.A (U (i * 3)).x.d.n (U (i * 3)).x.d.c, .bool (sgB (F (i * 3)).y.num), .slice (U (i * 3)).y.p.A (U (i * 3)).y.p.n (U (i * 3)).y.p.c, .slice (U (i * 3)).y.d.A (U (i * 3)).y.d.n (U (i * 3)).y.d.c, .bool (sgB (F (i * 3)).z.num), .slice (U (i * 3)).z.p.A (U (i * 3)).z.p.n (U (i * 3)).z.p.c, .slice (U (i * 3)).z.d.A (U (i * 3)).z.d.n (U (i * 3)).z.d.c, .bool (sgB (F (i * 3 + 1)).x.num), .slice (U (i * 3 + 1)).x.p.A (U (i * 3 + 1)).x.p.n (U (i * 3 + 1)).x.p.c, .slice (U (i * 3 + 1)).x.d.A (U (i * 3 + 1)).x.d.n (U (i * 3 + 1)).x.d.c, .bool (sgB (F (i * 3 + 1)).y.num), .slice (U (i * 3 + 1)).y.p.A (U (i * 3 + 1)).y.p.n (U (i * 3 + 1)).y.p.c, .slice (U (i * 3 + 1)).y.d.A (U (i * 3 + 1)).y.d.n (U (i * 3 + 1)).y.d.c, .bool (sgB (F (i * 3 + 1)).z.num), .slice (U (i * 3 + 1)).z.p.A (U (i * 3 + 1)).z.p.n (U (i * 3 + 1)).z.p.c, .slice (U (i * 3 + 1)).z.d.A (U (i * 3 + 1)).z.d.n (U (i * 3 + 1)).z.d.c, .bool (sgB (F (i * 3 + 2)).x.num), .slice (U (i * 3 + 2)).x.p.A (U (i * 3 + 2)).x.p.n (U (i * 3 + 2)).x.p.c, .slice (U (i * 3 + 2)).x.d.A (U (i * 3 + 2)).x.d.n (U (i * 3 + 2)).x.d.c, .bool (sgB (F (i * 3 + 2)).y.num), .slice (U (i * 3 + 2)).y.p.A (U (i * 3 + 2)).y.p.n (U (i * 3 + 2)).y.p.c, .slice (U (i * 3 + 2)).y.d.A (U (i * 3 + 2)).y.d.n (U (i * 3 + 2)).y.d.c, .bool (sgB (F (i * 3 + 2)).z.num), .slice (U (i * 3 + 2)).z.p.A (U (i * 3 + 2)).z.p.n (U (i * 3 + 2)).z.p.c, .slice (U (i * 3 + 2)).z.d.A (U (i * 3 + 2)).z.d.n (U (i * 3 + 2)).z.d.c]) (.int .i64 2)).run Tryz.prog w = .ok (.agg #[.bool (sgB (F (i * 3 + 2)).x.num), .slice (U (i * 3 + 2)).x.p.A (U (i * 3 + 2)).x.p.n (U (i * 3 + 2)).x.p.c, .slice (U (i * 3 + 2)).x.d.A (U (i * 3 + 2)).x.d.n (U (i * 3 + 2)).x.d.c, .bool (sgB (F (i * 3 + 2)).y.num), .slice (U (i * 3 + 2)).y.p.A (U (i * 3 + 2)).y.p.n (U (i * 3 + 2)).y.p.c, .slice (U (i * 3 + 2)).y.d.A (U (i * 3 + 2)).y.d.n (U (i * 3 + 2)).y.d.c, .bool (sgB (F (i * 3 + 2)).z.num), .slice (U (i * 3 + 2)).z.p.A (U (i * 3 + 2)).z.p.n (U (i * 3 + 2)).z.p.c, .slice (U (i * 3 + 2)).z.d.A (U (i * 3 + 2)).z.d.n (U (i * 3 + 2)).z.d.c]) w := fun _ => by kernel_rfl
        have ij : ∀ (j : Nat), j < 3 → ∀ w, (Instr.index 192 (.agg #[.bool (sgB (F (i * 3)).x.num), .slice (U (i * 3)).x.p.A (U (i * 3)).x.p.n (U (i * 3)).x.p.c, .slice (U (i * 3)).x.d.A (U (i * 3)).x.d.n (U (i * 3)).x.d.c, .bool (sgB (F (i * 3)).y.num), .slice (U (i * 3)).y.p.A (U (i * 3)).y.p.n (U (i * 3)).y.p.c, .slice (U (i * 3)).y.d.A (U (i * 3)).y.d.n (U (i * 3)).y.d.c, .bool (sgB (F (i * 3)).z.num), .slice (U (i * 3)).z.p.A (U (i * 3)).z.p.n (U (i * 3)).z.p.c, .slice (U (i * 3)).z.d.A (U (i * 3)).z.d.n (U (i * 3)).z.d.c, .bool (sgB (F (i * 3 + 1)).x.num), .slice (U (i * 3 + 1)).x.p.A (U (i * 3 + 1)).x.p.n (U (i * 3 + 1)).x.p.c, .slice (U (i * 3 + 1)).x.d.A (U (i * 3 + 1)).x.d.n (U (i * 3 + 1)).x.d.c, .bool (sgB (F (i * 3 + 1)).y.num), .slice (U (i * 3 + 1)).y.p.A (U (i * 3 + 1)).y.p.n (U (i * 3 + 1)).y.p.c, .slice (U (i * 3 + 1)).y.d.A (U (i * 3 + 1)).y.d.n (U (i * 3 + 1)).y.d.c, .bool (sgB (F (i * 3 + 1)).z.num), .slice (U (i * 3 + 1)).z.p.A (U (i * 3 + 1)).z.p.n (U (i * 3 + 1)).z.p.c, .slice (U (i * 3 + 1)).z.d.A (U (i * 3 + 1)).z.d.n (U (i * 3 + 1)).z.d.c, .bool (sgB (F (i * 3 + 2)).x.num), .slice (U (i * 3 + 2)).x.p.A (U (i * 3 + 2)).x.p.n (U (i * 3 + 2)).x.p.c, .slice (U (i * 3 + 2)).x.d.A (U (i * 3 + 2)).x.d.n (U (i * 3 + 2)).x.d.c, .bool (sgB (F (i * 3 + 2)).y.num), .slice (U (i * 3 + 2)).y.p.A (U (i * 3 + 2)).y.p.n (U (i * 3 + 2)).y.p.c, .slice (U (i * 3 + 2)).y.d.A (U (i * 3 + 2)).y.d.n (U (i * 3 + 2)).y.d.c, .bool (sgB (F (i * 3 + 2)).z.num), .slice (U (i * 3 + 2)).z.p.A (U (i * 3 + 2)).z.p.n (U (i * 3 + 2)).z.p.c, .slice (U (i * 3 + 2)).z.d.A (U (i * 3 + 2)).z.d.n (U (i * 3 + 2)).z.d.c]) (.int .i64 j)).run Tryz.prog w = .ok (.agg #[.bool (sgB (F (i * 3 + j)).x.num), .slice (U (i * 3 + j)).x.p.A (U (i * 3 + j)).x.p.n (U (i * 3 + j)).x.p.c, .slice (U (i * 3 + j)).x.d.A (U (i * 3 + j)).x.d.n (U (i * 3 + j)).x.d.c, .bool (sgB (F (i * 3 + j)).y.num), .slice (U (i * 3 + j)).y.p.A (U (i * 3 + j)).y.p.n (U (i * 3 + j)).y.p.c, .slice (U (i * 3 + j)).y.d.A (U (i * 3 + j)).y.d.n (U (i * 3 + j)).y.d.c, .bool (sgB (F (i * 3 + j)).z.num), .slice (U (i * 3 + j)).z.p.A (U (i * 3 + j)).z.p.n (U (i * 3 + j)).z.p.c, .slice (U (i * 3 + j)).z.d.A (U (i * 3 + j)).z.d.n (U (i * 3 + j)).z.d.c]) w := by
          intro j hj
          match j, hj with
          | 0, _ => exact ij0
          | 1, _ => exact ij1
          | 2, _ => exact ij2
        have IJ := Lib.hid ij
        clear ij0 ij1 ij2 ij
        go_upto_region 5 with fail
        clear LT
        generalize hY : World.alloc wr _ = Y
        obtain ⟨hb, hsz, RT⟩ := A1 hY
        have HBW := Lib.hid (bstep HBW.out hb)
        have R4 := Lib.hid (keep hb R4.out)
        have R5 := Lib.hid (keep hb R5.out)
        have KL := Lib.hid (KL.out.below hb)
        have KH := Lib.hid (KH.out.below hb)
        have LT2 := run_loadTrRow RT rfl
        clear hY hsz hb RT
        go_wp2_with fail
        clear LT2
        go_loopw [25] (fun x wr => ∃ (j : Nat) (sl sh : VS), j ≤ 3 ∧ x = .int .i64 j ∧ Hid (Below W.heap.size W wr) ∧ Hid (wr.heap[p]? = some (.cells #[.bool (sgB (lowR F (i * 3 + j)).x.num), .slice sl.x.p.A sl.x.p.n sl.x.p.c, .slice sl.x.d.A sl.x.d.n sl.x.d.c, .bool (sgB (lowR F (i * 3 + j)).y.num), .slice sl.y.p.A sl.y.p.n sl.y.p.c, .slice sl.y.d.A sl.y.d.n sl.y.d.c, .bool (sgB (lowR F (i * 3 + j)).z.num), .slice sl.z.p.A sl.z.p.n sl.z.p.c, .slice sl.z.d.A sl.z.d.n sl.z.d.c] 116 (0, 0))) ∧ Hid (wr.heap[q]? = some (.cells #[.bool (sgB (highR F (i * 3 + j)).x.num), .slice sh.x.p.A sh.x.p.n sh.x.p.c, .slice sh.x.d.A sh.x.d.n sh.x.d.c, .bool (sgB (highR F (i * 3 + j)).y.num), .slice sh.y.p.A sh.y.p.n sh.y.p.c, .slice sh.y.d.A sh.y.d.n sh.y.d.c, .bool (sgB (highR F (i * 3 + j)).z.num), .slice sh.z.p.A sh.z.p.n sh.z.p.c, .slice sh.z.d.A sh.z.d.n sh.z.d.c] 116 (0, 0))) ∧ Hid (RV wr sl (lowR F (i * 3 + j))) ∧ Hid (RV wr sh (highR F (i * 3 + j)))) (fun x _ => 3 - (intOf x).toNat)
        case atStart => exact ⟨0, sl, sh, by omega, rfl, HBW, R4, R5, KL, KH⟩
        case round =>
          clear HBW R4 R5 KL KH
          obtain ⟨j, sl, sh, hj3, rfl, HBW, R4, R5, KL, KH⟩ := hrel
          by_cases hj : j < 3
          · have ij := IJ.out j hj
            have hm3 : i * 3 + j < n * 3 := by omega
            have hmk : i * 3 + j + 1 = i * 3 + (j + 1) := rfl
            generalize hmm : i * 3 + j = m at *
            go_upto_region 8 with fail
            clear ij
            generalize hY : World.alloc wr _ = wz
            obtain ⟨hb, hsz, R9⟩ := A1 hY
            have HBW := Lib.hid (bstep HBW.out hb)
            have n9p := Lib.hid (show wr.heap.size ≠ p by have := lt_of_row R4.out; omega)
            have n9q := Lib.hid (show wr.heap.size ≠ q by have := lt_of_row R5.out; omega)
            have R4 := Lib.hid (keep hb R4.out)
            have R5 := Lib.hid (keep hb R5.out)
            have R9 := Lib.hid R9
            have KL := Lib.hid (KL.out.below hb)
            have KH := Lib.hid (KH.out.below hb)
            have KX := Lib.hid ((HU.out m hm3).below HBW.out)
            have SZX := Lib.hid (HZ.out m hm3)
            have SZKL := Lib.hid (HK.out m (by omega)).1
            have SZKH := Lib.hid (HK.out m (by omega)).2
            have hB := HBW.out
            clear hY hsz hb HBW
            generalize wr.heap.size = g9 at *
            go_upto_region 8 with fail
            refine wp_region_late (fun W => Below wz.heap.size wz W) (fun j => j == 16) (by kernel_rfl) ?_
            have hS0 : Below wz.heap.size wz wz.drew := Below.drew (Below.refl _ _)
            refine wpLate_take 0 1 (oi := ({ dst := some 28, op := Go.Op.fieldAddr 116 (Go.Operand.tmp 4) 0, type := 0, pos := "ref.go:205", after := #[], guard := none } : Oper)) (v := ?_) rfl (by kernel_rfl) (by kernel_rfl) (by kernel_rfl) (by kernel_rfl) (by kernel_rfl) (by kernel_rfl) (fun _ _ _ h => h) (Or.inl ⟨rfl, ?_⟩) hS0 ?_
            rotate_left
            · intro W hW
              skip
              go_simp
              first | done | with_reducible rfl
            try simp only [Act.put, List.setIfInBounds_toArray, List.set_cons_zero, List.set_cons_succ]
            refine wpLate_take 1 4 (oi := ({ dst := some 29, op := Go.Op.load 45 (Go.Operand.tmp 28), type := 45, pos := "ref.go:205", after := #[{ on := 0, ground := Go.Ground.data }], guard := none } : Oper)) (v := ?_) rfl (by kernel_rfl) (by kernel_rfl) (by kernel_rfl) (by kernel_rfl) (by kernel_rfl) (by kernel_rfl) (fun _ _ _ h => h) (Or.inl ⟨rfl, ?_⟩) hS0 ?_
            rotate_left
            · intro W hW
              obtain ⟨q0, q1, q2, q3, q4, q5, q6, q7, q8⟩ := rowc9 (keep hW R4.out)
              obtain ⟨r0, r1, r2, r3, r4, r5, r6, r7, r8⟩ := rowc9 (keep hW R9.out)
              go_simp
              first | done | with_reducible rfl
            try simp only [Act.put, List.setIfInBounds_toArray, List.set_cons_zero, List.set_cons_succ]
            refine wpLate_take 2 3 (oi := ({ dst := some 30, op := Go.Op.fieldAddr 116 (Go.Operand.tmp 9) 0, type := 0, pos := "ref.go:205", after := #[], guard := none } : Oper)) (v := ?_) rfl (by kernel_rfl) (by kernel_rfl) (by kernel_rfl) (by kernel_rfl) (by kernel_rfl) (by kernel_rfl) (fun _ _ _ h => h) (Or.inl ⟨rfl, ?_⟩) hS0 ?_
            rotate_left
            · intro W hW
              skip
              go_simp
              first | done | with_reducible rfl
            try simp only [Act.put, List.setIfInBounds_toArray, List.set_cons_zero, List.set_cons_succ]
            refine wpLate_take 3 4 (oi := ({ dst := some 31, op := Go.Op.load 45 (Go.Operand.tmp 30), type := 45, pos := "ref.go:205", after := #[{ on := 2, ground := Go.Ground.data }], guard := none } : Oper)) (v := ?_) rfl (by kernel_rfl) (by kernel_rfl) (by kernel_rfl) (by kernel_rfl) (by kernel_rfl) (by kernel_rfl) (fun _ _ _ h => h) (Or.inl ⟨rfl, ?_⟩) hS0 ?_
            rotate_left
            · intro W hW
              obtain ⟨q0, q1, q2, q3, q4, q5, q6, q7, q8⟩ := rowc9 (keep hW R4.out)
              obtain ⟨r0, r1, r2, r3, r4, r5, r6, r7, r8⟩ := rowc9 (keep hW R9.out)
              go_simp
              first | done | with_reducible rfl
            try simp only [Act.put, List.setIfInBounds_toArray, List.set_cons_zero, List.set_cons_succ]
            refine wpLate_take 5 6 (oi := ({ dst := some 33, op := Go.Op.fieldAddr 116 (Go.Operand.tmp 4) 1, type := 0, pos := "ref.go:205", after := #[], guard := none } : Oper)) (v := ?_) rfl (by kernel_rfl) (by kernel_rfl) (by kernel_rfl) (by kernel_rfl) (by kernel_rfl) (by kernel_rfl) (fun _ _ _ h => h) (Or.inl ⟨rfl, ?_⟩) hS0 ?_
            rotate_left
            · intro W hW
              skip
              go_simp
              first | done | with_reducible rfl
            try simp only [Act.put, List.setIfInBounds_toArray, List.set_cons_zero, List.set_cons_succ]
            refine wpLate_take 6 9 (oi := ({ dst := some 34, op := Go.Op.load 45 (Go.Operand.tmp 33), type := 45, pos := "ref.go:205", after := #[{ on := 5, ground := Go.Ground.data }], guard := none } : Oper)) (v := ?_) rfl (by kernel_rfl) (by kernel_rfl) (by kernel_rfl) (by kernel_rfl) (by kernel_rfl) (by kernel_rfl) (fun _ _ _ h => h) (Or.inl ⟨rfl, ?_⟩) hS0 ?_
            rotate_left
            · intro W hW
              obtain ⟨q0, q1, q2, q3, q4, q5, q6, q7, q8⟩ := rowc9 (keep hW R4.out)
              obtain ⟨r0, r1, r2, r3, r4, r5, r6, r7, r8⟩ := rowc9 (keep hW R9.out)
              go_simp
              first | done | with_reducible rfl
            try simp only [Act.put, List.setIfInBounds_toArray, List.set_cons_zero, List.set_cons_succ]
            refine wpLate_take 7 8 (oi := ({ dst := some 35, op := Go.Op.fieldAddr 116 (Go.Operand.tmp 9) 1, type := 0, pos := "ref.go:205", after := #[], guard := none } : Oper)) (v := ?_) rfl (by kernel_rfl) (by kernel_rfl) (by kernel_rfl) (by kernel_rfl) (by kernel_rfl) (by kernel_rfl) (fun _ _ _ h => h) (Or.inl ⟨rfl, ?_⟩) hS0 ?_
            rotate_left
            · intro W hW
              skip
              go_simp
              first | done | with_reducible rfl
            try simp only [Act.put, List.setIfInBounds_toArray, List.set_cons_zero, List.set_cons_succ]
            refine wpLate_take 8 9 (oi := ({ dst := some 36, op := Go.Op.load 45 (Go.Operand.tmp 35), type := 45, pos := "ref.go:205", after := #[{ on := 7, ground := Go.Ground.data }], guard := none } : Oper)) (v := ?_) rfl (by kernel_rfl) (by kernel_rfl) (by kernel_rfl) (by kernel_rfl) (by kernel_rfl) (by kernel_rfl) (fun _ _ _ h => h) (Or.inl ⟨rfl, ?_⟩) hS0 ?_
            rotate_left
            · intro W hW
              obtain ⟨q0, q1, q2, q3, q4, q5, q6, q7, q8⟩ := rowc9 (keep hW R4.out)
              obtain ⟨r0, r1, r2, r3, r4, r5, r6, r7, r8⟩ := rowc9 (keep hW R9.out)
              go_simp
              first | done | with_reducible rfl
            try simp only [Act.put, List.setIfInBounds_toArray, List.set_cons_zero, List.set_cons_succ]
            refine wpLate_take 10 11 (oi := ({ dst := some 38, op := Go.Op.fieldAddr 116 (Go.Operand.tmp 4) 2, type := 0, pos := "ref.go:205", after := #[], guard := none } : Oper)) (v := ?_) rfl (by kernel_rfl) (by kernel_rfl) (by kernel_rfl) (by kernel_rfl) (by kernel_rfl) (by kernel_rfl) (fun _ _ _ h => h) (Or.inl ⟨rfl, ?_⟩) hS0 ?_
            rotate_left
            · intro W hW
              skip
              go_simp
              first | done | with_reducible rfl
            try simp only [Act.put, List.setIfInBounds_toArray, List.set_cons_zero, List.set_cons_succ]
            refine wpLate_take 11 14 (oi := ({ dst := some 39, op := Go.Op.load 45 (Go.Operand.tmp 38), type := 45, pos := "ref.go:205", after := #[{ on := 10, ground := Go.Ground.data }], guard := none } : Oper)) (v := ?_) rfl (by kernel_rfl) (by kernel_rfl) (by kernel_rfl) (by kernel_rfl) (by kernel_rfl) (by kernel_rfl) (fun _ _ _ h => h) (Or.inl ⟨rfl, ?_⟩) hS0 ?_
            rotate_left
            · intro W hW
              obtain ⟨q0, q1, q2, q3, q4, q5, q6, q7, q8⟩ := rowc9 (keep hW R4.out)
              obtain ⟨r0, r1, r2, r3, r4, r5, r6, r7, r8⟩ := rowc9 (keep hW R9.out)
              go_simp
              first | done | with_reducible rfl
            try simp only [Act.put, List.setIfInBounds_toArray, List.set_cons_zero, List.set_cons_succ]
            refine wpLate_take 12 13 (oi := ({ dst := some 40, op := Go.Op.fieldAddr 116 (Go.Operand.tmp 9) 2, type := 0, pos := "ref.go:205", after := #[], guard := none } : Oper)) (v := ?_) rfl (by kernel_rfl) (by kernel_rfl) (by kernel_rfl) (by kernel_rfl) (by kernel_rfl) (by kernel_rfl) (fun _ _ _ h => h) (Or.inl ⟨rfl, ?_⟩) hS0 ?_
            rotate_left
            · intro W hW
              skip
              go_simp
              first | done | with_reducible rfl
            try simp only [Act.put, List.setIfInBounds_toArray, List.set_cons_zero, List.set_cons_succ]
            refine wpLate_take 13 14 (oi := ({ dst := some 41, op := Go.Op.load 45 (Go.Operand.tmp 40), type := 45, pos := "ref.go:205", after := #[{ on := 12, ground := Go.Ground.data }], guard := none } : Oper)) (v := ?_) rfl (by kernel_rfl) (by kernel_rfl) (by kernel_rfl) (by kernel_rfl) (by kernel_rfl) (by kernel_rfl) (fun _ _ _ h => h) (Or.inl ⟨rfl, ?_⟩) hS0 ?_
            rotate_left
            · intro W hW
              obtain ⟨q0, q1, q2, q3, q4, q5, q6, q7, q8⟩ := rowc9 (keep hW R4.out)
              obtain ⟨r0, r1, r2, r3, r4, r5, r6, r7, r8⟩ := rowc9 (keep hW R9.out)
              go_simp
              first | done | with_reducible rfl
            try simp only [Act.put, List.setIfInBounds_toArray, List.set_cons_zero, List.set_cons_succ]
            refine wpLate_one 4 (o := ({ dst := some 32, op := Go.Op.call { callee := Go.Callee.value (Go.Operand.func 129), args := #[Go.Operand.tmp 29, Go.Operand.tmp 31], argTypes := #[45, 45] }, type := 45, pos := "ref.go:205", after := #[{ on := 1, ground := Go.Ground.data }, { on := 3, ground := Go.Ground.data }], guard := none } : Oper)) (by kernel_rfl) rfl rfl (fun K hK => ?_)
            go_simp
            go_at_call 129
            refine (r16_Least _ _ _ _ _ _ _ (KL.out.x.below hS0) (KX.out.x.below hS0) SZKL.out.1 SZX.out.1).mono ?_
            rintro e wq0 ⟨p0, d0, rfl, hk, hb⟩
            go_wp2_with fail
            have hS1 := bstep hS0 hb
            have J0 := Lib.hid hk
            refine hK.out _ _ (fun _ => hS1) ?_
            clear hK K hk hb
            try simp only [Act.put, List.setIfInBounds_toArray, List.set_cons_zero, List.set_cons_succ]
            refine wpLate_one 9 (o := ({ dst := some 37, op := Go.Op.call { callee := Go.Callee.value (Go.Operand.func 129), args := #[Go.Operand.tmp 34, Go.Operand.tmp 36], argTypes := #[45, 45] }, type := 45, pos := "ref.go:205", after := #[{ on := 6, ground := Go.Ground.data }, { on := 8, ground := Go.Ground.data }, { on := 4, ground := Go.Ground.chain }], guard := none } : Oper)) (by kernel_rfl) rfl rfl (fun K hK => ?_)
            go_simp
            go_at_call 129
            refine (r16_Least _ _ _ _ _ _ _ (KL.out.y.below hS1) (KX.out.y.below hS1) SZKL.out.2.1 SZX.out.2.1).mono ?_
            rintro e wq1 ⟨p1, d1, rfl, hk, hb⟩
            go_wp2_with fail
            have hS2 := bstep hS1 hb
            have J0 := Lib.hid (J0.out.below hb)
            have J1 := Lib.hid hk
            refine hK.out _ _ (fun _ => hS2) ?_
            clear hK K hk hb
            try simp only [Act.put, List.setIfInBounds_toArray, List.set_cons_zero, List.set_cons_succ]
            refine wpLate_one 14 (o := ({ dst := some 42, op := Go.Op.call { callee := Go.Callee.value (Go.Operand.func 129), args := #[Go.Operand.tmp 39, Go.Operand.tmp 41], argTypes := #[45, 45] }, type := 45, pos := "ref.go:205", after := #[{ on := 11, ground := Go.Ground.data }, { on := 13, ground := Go.Ground.data }, { on := 9, ground := Go.Ground.chain }], guard := none } : Oper)) (by kernel_rfl) rfl rfl (fun K hK => ?_)
            go_simp
            go_at_call 129
            refine (r16_Least _ _ _ _ _ _ _ (KL.out.z.below hS2) (KX.out.z.below hS2) SZKL.out.2.2 SZX.out.2.2).mono ?_
            rintro e wq2 ⟨p2, d2, rfl, hk, hb⟩
            go_wp2_with fail
            have hS3 := bstep hS2 hb
            have J0 := Lib.hid (J0.out.below hb)
            have J1 := Lib.hid (J1.out.below hb)
            have J2 := Lib.hid hk
            refine hK.out _ _ (fun _ => hS3) ?_
            clear hK K hk hb
            try simp only [Act.put, List.setIfInBounds_toArray, List.set_cons_zero, List.set_cons_succ]
            refine wpLate_one 15 (o := ({ dst := some 43, op := Go.Op.build 116 #[(0, Go.Operand.tmp 32), (1, Go.Operand.tmp 37), (2, Go.Operand.tmp 42)], type := 116, pos := "ref.go:205", after := #[{ on := 4, ground := Go.Ground.data }, { on := 9, ground := Go.Ground.data }, { on := 14, ground := Go.Ground.data }], guard := none } : Oper)) (by kernel_rfl) rfl rfl (fun K hK => ?_)
            go_simp
            refine hK.out _ _ (fun _ => hS3) ?_
            clear hK K
            try simp only [Act.put, List.setIfInBounds_toArray, List.set_cons_zero, List.set_cons_succ]
            replace hB := bstep hB hS3
            have R5 := Lib.hid (keep hS3 R5.out)
            have R9 := Lib.hid (keep hS3 R9.out)
            have R4 := Lib.hid (keep hS3 R4.out)
            have KH := Lib.hid (KH.out.below hS3)
            have KX := Lib.hid (KX.out.below hS3)
            clear hS0 hS1 hS2 hS3
            refine wpLate_one 16 (o := ({ dst := none, op := Go.Op.store 116 (Go.Operand.tmp 4) (Go.Operand.tmp 43), type := 0, pos := "ref.go:205", after := #[{ on := 15, ground := Go.Ground.data }, { on := 14, ground := Go.Ground.chain }, { on := 0, ground := Go.Ground.phase }, { on := 1, ground := Go.Ground.phase }, { on := 2, ground := Go.Ground.phase }, { on := 3, ground := Go.Ground.phase }, { on := 4, ground := Go.Ground.phase }, { on := 5, ground := Go.Ground.phase }, { on := 6, ground := Go.Ground.phase }, { on := 7, ground := Go.Ground.phase }, { on := 8, ground := Go.Ground.phase }, { on := 9, ground := Go.Ground.phase }, { on := 10, ground := Go.Ground.phase }, { on := 11, ground := Go.Ground.phase }, { on := 12, ground := Go.Ground.phase }, { on := 13, ground := Go.Ground.phase }, { on := 14, ground := Go.Ground.phase }, { on := 15, ground := Go.Ground.phase }], guard := none } : Oper)) (by kernel_rfl) rfl rfl (fun K hK => ?_)
            obtain ⟨q0, q1, q2, q3, q4, q5, q6, q7, q8, q9, q10, q11, q12, q13, q14, q15, q16, q17⟩ := row9 R4.out
            go_simp
            clear q0 q1 q2 q3 q4 q5 q6 q7 q8 q9 q10 q11 q12 q13 q14 q15 q16 q17
            refine hK.out _ _ (fun h => absurd h (by decide)) ?_
            clear hK K
            try simp only [Act.put]
            refine wpLate_done (by kernel_rfl) ?_ _
            have KN := Lib.hid (show RV wq2 ⟨⟨p0, d0⟩, ⟨p1, d1⟩, ⟨p2, d2⟩⟩ (lowR F (m + 1)) from ⟨J0.out, J1.out, J2.out⟩)
            clear J0 J1 J2 KL
            have KL := Lib.hid (KN.out.store9 R4.out (b0 := (sgB (lst16 (lowR F m).x (F m).x).num)) (u1 := .slice p0.A p0.n p0.c) (u2 := .slice d0.A d0.n d0.c) (u3 := .bool (sgB (lst16 (lowR F m).y (F m).y).num)) (u4 := .slice p1.A p1.n p1.c) (u5 := .slice d1.A d1.n d1.c) (u6 := .bool (sgB (lst16 (lowR F m).z (F m).z).num)) (u7 := .slice p2.A p2.n p2.c) (u8 := .slice d2.A d2.n d2.c))
            have KH := Lib.hid (KH.out.store9 R4.out (b0 := (sgB (lst16 (lowR F m).x (F m).x).num)) (u1 := .slice p0.A p0.n p0.c) (u2 := .slice d0.A d0.n d0.c) (u3 := .bool (sgB (lst16 (lowR F m).y (F m).y).num)) (u4 := .slice p1.A p1.n p1.c) (u5 := .slice d1.A d1.n d1.c) (u6 := .bool (sgB (lst16 (lowR F m).z (F m).z).num)) (u7 := .slice p2.A p2.n p2.c) (u8 := .slice d2.A d2.n d2.c))
            have KX := Lib.hid (KX.out.store9 R4.out (b0 := (sgB (lst16 (lowR F m).x (F m).x).num)) (u1 := .slice p0.A p0.n p0.c) (u2 := .slice d0.A d0.n d0.c) (u3 := .bool (sgB (lst16 (lowR F m).y (F m).y).num)) (u4 := .slice p1.A p1.n p1.c) (u5 := .slice d1.A d1.n d1.c) (u6 := .bool (sgB (lst16 (lowR F m).z (F m).z).num)) (u7 := .slice p2.A p2.n p2.c) (u8 := .slice d2.A d2.n d2.c))
            have R5 := Lib.hid (store9_other npq.out.symm R5.out (.bool (sgB (lst16 (lowR F m).x (F m).x).num)) (.slice p0.A p0.n p0.c) (.slice d0.A d0.n d0.c) (.bool (sgB (lst16 (lowR F m).y (F m).y).num)) (.slice p1.A p1.n p1.c) (.slice d1.A d1.n d1.c) (.bool (sgB (lst16 (lowR F m).z (F m).z).num)) (.slice p2.A p2.n p2.c) (.slice d2.A d2.n d2.c))
            have R9 := Lib.hid (store9_other n9p.out R9.out (.bool (sgB (lst16 (lowR F m).x (F m).x).num)) (.slice p0.A p0.n p0.c) (.slice d0.A d0.n d0.c) (.bool (sgB (lst16 (lowR F m).y (F m).y).num)) (.slice p1.A p1.n p1.c) (.slice d1.A d1.n d1.c) (.bool (sgB (lst16 (lowR F m).z (F m).z).num)) (.slice p2.A p2.n p2.c) (.slice d2.A d2.n d2.c))
            have R4 := Lib.hid (store9 R4.out (.bool (sgB (lst16 (lowR F m).x (F m).x).num)) (.slice p0.A p0.n p0.c) (.slice d0.A d0.n d0.c) (.bool (sgB (lst16 (lowR F m).y (F m).y).num)) (.slice p1.A p1.n p1.c) (.slice d1.A d1.n d1.c) (.bool (sgB (lst16 (lowR F m).z (F m).z).num)) (.slice p2.A p2.n p2.c) (.slice d2.A d2.n d2.c))
            have hB := store9_below hB LBp.out (.bool (sgB (lst16 (lowR F m).x (F m).x).num)) (.slice p0.A p0.n p0.c) (.slice d0.A d0.n d0.c) (.bool (sgB (lst16 (lowR F m).y (F m).y).num)) (.slice p1.A p1.n p1.c) (.slice d1.A d1.n d1.c) (.bool (sgB (lst16 (lowR F m).z (F m).z).num)) (.slice p2.A p2.n p2.c) (.slice d2.A d2.n d2.c)
            clear KN
            generalize World.setCell (World.setCell (World.setCell (World.setCell (World.setCell (World.setCell (World.setCell (World.setCell (World.setCell _ _ _) _ _) _ _) _ _) _ _) _ _) _ _) _ _) _ _ = X1 at *
            go_upto_region 9 with fail
            refine wp_region_late (fun W => Below X1.heap.size X1 W) (fun j => j == 16) (by kernel_rfl) ?_
            have hS0 : Below X1.heap.size X1 X1.drew := Below.drew (Below.refl _ _)
            refine wpLate_take 0 1 (oi := ({ dst := some 44, op := Go.Op.fieldAddr 116 (Go.Operand.tmp 5) 0, type := 0, pos := "ref.go:206", after := #[], guard := none } : Oper)) (v := ?_) rfl (by kernel_rfl) (by kernel_rfl) (by kernel_rfl) (by kernel_rfl) (by kernel_rfl) (by kernel_rfl) (fun _ _ _ h => h) (Or.inl ⟨rfl, ?_⟩) hS0 ?_
            rotate_left
            · intro W hW
              skip
              go_simp
              first | done | with_reducible rfl
            try simp only [Act.put, List.setIfInBounds_toArray, List.set_cons_zero, List.set_cons_succ]
            refine wpLate_take 1 4 (oi := ({ dst := some 45, op := Go.Op.load 45 (Go.Operand.tmp 44), type := 45, pos := "ref.go:206", after := #[{ on := 0, ground := Go.Ground.data }], guard := none } : Oper)) (v := ?_) rfl (by kernel_rfl) (by kernel_rfl) (by kernel_rfl) (by kernel_rfl) (by kernel_rfl) (by kernel_rfl) (fun _ _ _ h => h) (Or.inl ⟨rfl, ?_⟩) hS0 ?_
            rotate_left
            · intro W hW
              obtain ⟨q0, q1, q2, q3, q4, q5, q6, q7, q8⟩ := rowc9 (keep hW R5.out)
              obtain ⟨r0, r1, r2, r3, r4, r5, r6, r7, r8⟩ := rowc9 (keep hW R9.out)
              go_simp
              first | done | with_reducible rfl
            try simp only [Act.put, List.setIfInBounds_toArray, List.set_cons_zero, List.set_cons_succ]
            refine wpLate_take 2 3 (oi := ({ dst := some 46, op := Go.Op.fieldAddr 116 (Go.Operand.tmp 9) 0, type := 0, pos := "ref.go:206", after := #[], guard := none } : Oper)) (v := ?_) rfl (by kernel_rfl) (by kernel_rfl) (by kernel_rfl) (by kernel_rfl) (by kernel_rfl) (by kernel_rfl) (fun _ _ _ h => h) (Or.inl ⟨rfl, ?_⟩) hS0 ?_
            rotate_left
            · intro W hW
              skip
              go_simp
              first | done | with_reducible rfl
            try simp only [Act.put, List.setIfInBounds_toArray, List.set_cons_zero, List.set_cons_succ]
            refine wpLate_take 3 4 (oi := ({ dst := some 47, op := Go.Op.load 45 (Go.Operand.tmp 46), type := 45, pos := "ref.go:206", after := #[{ on := 2, ground := Go.Ground.data }], guard := none } : Oper)) (v := ?_) rfl (by kernel_rfl) (by kernel_rfl) (by kernel_rfl) (by kernel_rfl) (by kernel_rfl) (by kernel_rfl) (fun _ _ _ h => h) (Or.inl ⟨rfl, ?_⟩) hS0 ?_
            rotate_left
            · intro W hW
              obtain ⟨q0, q1, q2, q3, q4, q5, q6, q7, q8⟩ := rowc9 (keep hW R5.out)
              obtain ⟨r0, r1, r2, r3, r4, r5, r6, r7, r8⟩ := rowc9 (keep hW R9.out)
              go_simp
              first | done | with_reducible rfl
            try simp only [Act.put, List.setIfInBounds_toArray, List.set_cons_zero, List.set_cons_succ]
            refine wpLate_take 5 6 (oi := ({ dst := some 49, op := Go.Op.fieldAddr 116 (Go.Operand.tmp 5) 1, type := 0, pos := "ref.go:206", after := #[], guard := none } : Oper)) (v := ?_) rfl (by kernel_rfl) (by kernel_rfl) (by kernel_rfl) (by kernel_rfl) (by kernel_rfl) (by kernel_rfl) (fun _ _ _ h => h) (Or.inl ⟨rfl, ?_⟩) hS0 ?_
            rotate_left
            · intro W hW
              skip
              go_simp
              first | done | with_reducible rfl
            try simp only [Act.put, List.setIfInBounds_toArray, List.set_cons_zero, List.set_cons_succ]
            refine wpLate_take 6 9 (oi := ({ dst := some 50, op := Go.Op.load 45 (Go.Operand.tmp 49), type := 45, pos := "ref.go:206", after := #[{ on := 5, ground := Go.Ground.data }], guard := none } : Oper)) (v := ?_) rfl (by kernel_rfl) (by kernel_rfl) (by kernel_rfl) (by kernel_rfl) (by kernel_rfl) (by kernel_rfl) (fun _ _ _ h => h) (Or.inl ⟨rfl, ?_⟩) hS0 ?_
            rotate_left
            · intro W hW
              obtain ⟨q0, q1, q2, q3, q4, q5, q6, q7, q8⟩ := rowc9 (keep hW R5.out)
              obtain ⟨r0, r1, r2, r3, r4, r5, r6, r7, r8⟩ := rowc9 (keep hW R9.out)
              go_simp
              first | done | with_reducible rfl
            try simp only [Act.put, List.setIfInBounds_toArray, List.set_cons_zero, List.set_cons_succ]
            refine wpLate_take 7 8 (oi := ({ dst := some 51, op := Go.Op.fieldAddr 116 (Go.Operand.tmp 9) 1, type := 0, pos := "ref.go:206", after := #[], guard := none } : Oper)) (v := ?_) rfl (by kernel_rfl) (by kernel_rfl) (by kernel_rfl) (by kernel_rfl) (by kernel_rfl) (by kernel_rfl) (fun _ _ _ h => h) (Or.inl ⟨rfl, ?_⟩) hS0 ?_
            rotate_left
            · intro W hW
              skip
              go_simp
              first | done | with_reducible rfl
            try simp only [Act.put, List.setIfInBounds_toArray, List.set_cons_zero, List.set_cons_succ]
            refine wpLate_take 8 9 (oi := ({ dst := some 52, op := Go.Op.load 45 (Go.Operand.tmp 51), type := 45, pos := "ref.go:206", after := #[{ on := 7, ground := Go.Ground.data }], guard := none } : Oper)) (v := ?_) rfl (by kernel_rfl) (by kernel_rfl) (by kernel_rfl) (by kernel_rfl) (by kernel_rfl) (by kernel_rfl) (fun _ _ _ h => h) (Or.inl ⟨rfl, ?_⟩) hS0 ?_
            rotate_left
            · intro W hW
              obtain ⟨q0, q1, q2, q3, q4, q5, q6, q7, q8⟩ := rowc9 (keep hW R5.out)
              obtain ⟨r0, r1, r2, r3, r4, r5, r6, r7, r8⟩ := rowc9 (keep hW R9.out)
              go_simp
              first | done | with_reducible rfl
            try simp only [Act.put, List.setIfInBounds_toArray, List.set_cons_zero, List.set_cons_succ]
            refine wpLate_take 10 11 (oi := ({ dst := some 54, op := Go.Op.fieldAddr 116 (Go.Operand.tmp 5) 2, type := 0, pos := "ref.go:206", after := #[], guard := none } : Oper)) (v := ?_) rfl (by kernel_rfl) (by kernel_rfl) (by kernel_rfl) (by kernel_rfl) (by kernel_rfl) (by kernel_rfl) (fun _ _ _ h => h) (Or.inl ⟨rfl, ?_⟩) hS0 ?_
            rotate_left
            · intro W hW
              skip
              go_simp
              first | done | with_reducible rfl
            try simp only [Act.put, List.setIfInBounds_toArray, List.set_cons_zero, List.set_cons_succ]
            refine wpLate_take 11 14 (oi := ({ dst := some 55, op := Go.Op.load 45 (Go.Operand.tmp 54), type := 45, pos := "ref.go:206", after := #[{ on := 10, ground := Go.Ground.data }], guard := none } : Oper)) (v := ?_) rfl (by kernel_rfl) (by kernel_rfl) (by kernel_rfl) (by kernel_rfl) (by kernel_rfl) (by kernel_rfl) (fun _ _ _ h => h) (Or.inl ⟨rfl, ?_⟩) hS0 ?_
            rotate_left
            · intro W hW
              obtain ⟨q0, q1, q2, q3, q4, q5, q6, q7, q8⟩ := rowc9 (keep hW R5.out)
              obtain ⟨r0, r1, r2, r3, r4, r5, r6, r7, r8⟩ := rowc9 (keep hW R9.out)
              go_simp
              first | done | with_reducible rfl
            try simp only [Act.put, List.setIfInBounds_toArray, List.set_cons_zero, List.set_cons_succ]
            refine wpLate_take 12 13 (oi := ({ dst := some 56, op := Go.Op.fieldAddr 116 (Go.Operand.tmp 9) 2, type := 0, pos := "ref.go:206", after := #[], guard := none } : Oper)) (v := ?_) rfl (by kernel_rfl) (by kernel_rfl) (by kernel_rfl) (by kernel_rfl) (by kernel_rfl) (by kernel_rfl) (fun _ _ _ h => h) (Or.inl ⟨rfl, ?_⟩) hS0 ?_
            rotate_left
            · intro W hW
              skip
              go_simp
              first | done | with_reducible rfl
            try simp only [Act.put, List.setIfInBounds_toArray, List.set_cons_zero, List.set_cons_succ]
            refine wpLate_take 13 14 (oi := ({ dst := some 57, op := Go.Op.load 45 (Go.Operand.tmp 56), type := 45, pos := "ref.go:206", after := #[{ on := 12, ground := Go.Ground.data }], guard := none } : Oper)) (v := ?_) rfl (by kernel_rfl) (by kernel_rfl) (by kernel_rfl) (by kernel_rfl) (by kernel_rfl) (by kernel_rfl) (fun _ _ _ h => h) (Or.inl ⟨rfl, ?_⟩) hS0 ?_
            rotate_left
            · intro W hW
              obtain ⟨q0, q1, q2, q3, q4, q5, q6, q7, q8⟩ := rowc9 (keep hW R5.out)
              obtain ⟨r0, r1, r2, r3, r4, r5, r6, r7, r8⟩ := rowc9 (keep hW R9.out)
              go_simp
              first | done | with_reducible rfl
            try simp only [Act.put, List.setIfInBounds_toArray, List.set_cons_zero, List.set_cons_succ]
            refine wpLate_one 4 (o := ({ dst := some 48, op := Go.Op.call { callee := Go.Callee.value (Go.Operand.func 130), args := #[Go.Operand.tmp 45, Go.Operand.tmp 47], argTypes := #[45, 45] }, type := 45, pos := "ref.go:206", after := #[{ on := 1, ground := Go.Ground.data }, { on := 3, ground := Go.Ground.data }], guard := none } : Oper)) (by kernel_rfl) rfl rfl (fun K hK => ?_)
            go_simp
            go_at_call 130
            refine (r16_Most _ _ _ _ _ _ _ (KH.out.x.below hS0) (KX.out.x.below hS0) SZKH.out.1 SZX.out.1).mono ?_
            rintro e wq0 ⟨a0, c0, rfl, hk, hb⟩
            go_wp2_with fail
            have hS1 := bstep hS0 hb
            have J0 := Lib.hid hk
            refine hK.out _ _ (fun _ => hS1) ?_
            clear hK K hk hb
            try simp only [Act.put, List.setIfInBounds_toArray, List.set_cons_zero, List.set_cons_succ]
            refine wpLate_one 9 (o := ({ dst := some 53, op := Go.Op.call { callee := Go.Callee.value (Go.Operand.func 130), args := #[Go.Operand.tmp 50, Go.Operand.tmp 52], argTypes := #[45, 45] }, type := 45, pos := "ref.go:206", after := #[{ on := 6, ground := Go.Ground.data }, { on := 8, ground := Go.Ground.data }, { on := 4, ground := Go.Ground.chain }], guard := none } : Oper)) (by kernel_rfl) rfl rfl (fun K hK => ?_)
            go_simp
            go_at_call 130
            refine (r16_Most _ _ _ _ _ _ _ (KH.out.y.below hS1) (KX.out.y.below hS1) SZKH.out.2.1 SZX.out.2.1).mono ?_
            rintro e wq1 ⟨a1, c1, rfl, hk, hb⟩
            go_wp2_with fail
            have hS2 := bstep hS1 hb
            have J0 := Lib.hid (J0.out.below hb)
            have J1 := Lib.hid hk
            refine hK.out _ _ (fun _ => hS2) ?_
            clear hK K hk hb
            try simp only [Act.put, List.setIfInBounds_toArray, List.set_cons_zero, List.set_cons_succ]
            refine wpLate_one 14 (o := ({ dst := some 58, op := Go.Op.call { callee := Go.Callee.value (Go.Operand.func 130), args := #[Go.Operand.tmp 55, Go.Operand.tmp 57], argTypes := #[45, 45] }, type := 45, pos := "ref.go:206", after := #[{ on := 11, ground := Go.Ground.data }, { on := 13, ground := Go.Ground.data }, { on := 9, ground := Go.Ground.chain }], guard := none } : Oper)) (by kernel_rfl) rfl rfl (fun K hK => ?_)
            go_simp
            go_at_call 130
            refine (r16_Most _ _ _ _ _ _ _ (KH.out.z.below hS2) (KX.out.z.below hS2) SZKH.out.2.2 SZX.out.2.2).mono ?_
            rintro e wq2 ⟨a2, c2, rfl, hk, hb⟩
            go_wp2_with fail
            have hS3 := bstep hS2 hb
            have J0 := Lib.hid (J0.out.below hb)
            have J1 := Lib.hid (J1.out.below hb)
            have J2 := Lib.hid hk
            refine hK.out _ _ (fun _ => hS3) ?_
            clear hK K hk hb
            try simp only [Act.put, List.setIfInBounds_toArray, List.set_cons_zero, List.set_cons_succ]
            refine wpLate_one 15 (o := ({ dst := some 59, op := Go.Op.build 116 #[(0, Go.Operand.tmp 48), (1, Go.Operand.tmp 53), (2, Go.Operand.tmp 58)], type := 116, pos := "ref.go:206", after := #[{ on := 4, ground := Go.Ground.data }, { on := 9, ground := Go.Ground.data }, { on := 14, ground := Go.Ground.data }], guard := none } : Oper)) (by kernel_rfl) rfl rfl (fun K hK => ?_)
            go_simp
            refine hK.out _ _ (fun _ => hS3) ?_
            clear hK K
            try simp only [Act.put, List.setIfInBounds_toArray, List.set_cons_zero, List.set_cons_succ]
            replace hB := bstep hB hS3
            have R4 := Lib.hid (keep hS3 R4.out)
            have R9 := Lib.hid (keep hS3 R9.out)
            have R5 := Lib.hid (keep hS3 R5.out)
            have KL := Lib.hid (KL.out.below hS3)
            have KX := Lib.hid (KX.out.below hS3)
            clear hS0 hS1 hS2 hS3
            refine wpLate_one 16 (o := ({ dst := none, op := Go.Op.store 116 (Go.Operand.tmp 5) (Go.Operand.tmp 59), type := 0, pos := "ref.go:206", after := #[{ on := 15, ground := Go.Ground.data }, { on := 14, ground := Go.Ground.chain }, { on := 0, ground := Go.Ground.phase }, { on := 1, ground := Go.Ground.phase }, { on := 2, ground := Go.Ground.phase }, { on := 3, ground := Go.Ground.phase }, { on := 4, ground := Go.Ground.phase }, { on := 5, ground := Go.Ground.phase }, { on := 6, ground := Go.Ground.phase }, { on := 7, ground := Go.Ground.phase }, { on := 8, ground := Go.Ground.phase }, { on := 9, ground := Go.Ground.phase }, { on := 10, ground := Go.Ground.phase }, { on := 11, ground := Go.Ground.phase }, { on := 12, ground := Go.Ground.phase }, { on := 13, ground := Go.Ground.phase }, { on := 14, ground := Go.Ground.phase }, { on := 15, ground := Go.Ground.phase }], guard := none } : Oper)) (by kernel_rfl) rfl rfl (fun K hK => ?_)
            obtain ⟨q0, q1, q2, q3, q4, q5, q6, q7, q8, q9, q10, q11, q12, q13, q14, q15, q16, q17⟩ := row9 R5.out
            go_simp
            clear q0 q1 q2 q3 q4 q5 q6 q7 q8 q9 q10 q11 q12 q13 q14 q15 q16 q17
            refine hK.out _ _ (fun h => absurd h (by decide)) ?_
            clear hK K
            try simp only [Act.put]
            refine wpLate_done (by kernel_rfl) ?_ _
            have KN := Lib.hid (show RV wq2 ⟨⟨a0, c0⟩, ⟨a1, c1⟩, ⟨a2, c2⟩⟩ (highR F (m + 1)) from ⟨J0.out, J1.out, J2.out⟩)
            clear J0 J1 J2 KH
            have KH := Lib.hid (KN.out.store9 R5.out (b0 := (sgB (mst16 (highR F m).x (F m).x).num)) (u1 := .slice a0.A a0.n a0.c) (u2 := .slice c0.A c0.n c0.c) (u3 := .bool (sgB (mst16 (highR F m).y (F m).y).num)) (u4 := .slice a1.A a1.n a1.c) (u5 := .slice c1.A c1.n c1.c) (u6 := .bool (sgB (mst16 (highR F m).z (F m).z).num)) (u7 := .slice a2.A a2.n a2.c) (u8 := .slice c2.A c2.n c2.c))
            have KL := Lib.hid (KL.out.store9 R5.out (b0 := (sgB (mst16 (highR F m).x (F m).x).num)) (u1 := .slice a0.A a0.n a0.c) (u2 := .slice c0.A c0.n c0.c) (u3 := .bool (sgB (mst16 (highR F m).y (F m).y).num)) (u4 := .slice a1.A a1.n a1.c) (u5 := .slice c1.A c1.n c1.c) (u6 := .bool (sgB (mst16 (highR F m).z (F m).z).num)) (u7 := .slice a2.A a2.n a2.c) (u8 := .slice c2.A c2.n c2.c))
            have KX := Lib.hid (KX.out.store9 R5.out (b0 := (sgB (mst16 (highR F m).x (F m).x).num)) (u1 := .slice a0.A a0.n a0.c) (u2 := .slice c0.A c0.n c0.c) (u3 := .bool (sgB (mst16 (highR F m).y (F m).y).num)) (u4 := .slice a1.A a1.n a1.c) (u5 := .slice c1.A c1.n c1.c) (u6 := .bool (sgB (mst16 (highR F m).z (F m).z).num)) (u7 := .slice a2.A a2.n a2.c) (u8 := .slice c2.A c2.n c2.c))
            have R4 := Lib.hid (store9_other npq.out R4.out (.bool (sgB (mst16 (highR F m).x (F m).x).num)) (.slice a0.A a0.n a0.c) (.slice c0.A c0.n c0.c) (.bool (sgB (mst16 (highR F m).y (F m).y).num)) (.slice a1.A a1.n a1.c) (.slice c1.A c1.n c1.c) (.bool (sgB (mst16 (highR F m).z (F m).z).num)) (.slice a2.A a2.n a2.c) (.slice c2.A c2.n c2.c))
            have R9 := Lib.hid (store9_other n9q.out R9.out (.bool (sgB (mst16 (highR F m).x (F m).x).num)) (.slice a0.A a0.n a0.c) (.slice c0.A c0.n c0.c) (.bool (sgB (mst16 (highR F m).y (F m).y).num)) (.slice a1.A a1.n a1.c) (.slice c1.A c1.n c1.c) (.bool (sgB (mst16 (highR F m).z (F m).z).num)) (.slice a2.A a2.n a2.c) (.slice c2.A c2.n c2.c))
            have R5 := Lib.hid (store9 R5.out (.bool (sgB (mst16 (highR F m).x (F m).x).num)) (.slice a0.A a0.n a0.c) (.slice c0.A c0.n c0.c) (.bool (sgB (mst16 (highR F m).y (F m).y).num)) (.slice a1.A a1.n a1.c) (.slice c1.A c1.n c1.c) (.bool (sgB (mst16 (highR F m).z (F m).z).num)) (.slice a2.A a2.n a2.c) (.slice c2.A c2.n c2.c))
            have hB := store9_below hB LBq.out (.bool (sgB (mst16 (highR F m).x (F m).x).num)) (.slice a0.A a0.n a0.c) (.slice c0.A c0.n c0.c) (.bool (sgB (mst16 (highR F m).y (F m).y).num)) (.slice a1.A a1.n a1.c) (.slice c1.A c1.n c1.c) (.bool (sgB (mst16 (highR F m).z (F m).z).num)) (.slice a2.A a2.n a2.c) (.slice c2.A c2.n c2.c)
            clear KN
            generalize World.setCell (World.setCell (World.setCell (World.setCell (World.setCell (World.setCell (World.setCell (World.setCell (World.setCell _ _ _) _ _) _ _) _ _) _ _) _ _) _ _) _ _) _ _ = X2 at *
            go_wp2_with fail
            go_roundw
            case rel =>
              refine ⟨j + 1, ⟨⟨p0, d0⟩, ⟨p1, d1⟩, ⟨p2, d2⟩⟩, ⟨⟨a0, c0⟩, ⟨a1, c1⟩, ⟨a2, c2⟩⟩, by omega, by go_num, ?_⟩
              rw [← hmk]
              exact ⟨Lib.hid hB, R4, R5, KL, KH⟩
            case measure => simp [intOf]; omega
          · obtain rfl : j = 3 := by omega
            rw [show i * 3 + 3 = (i + 1) * 3 by omega] at R4 R5 KL KH
            go_wp2_with fail
            go_roundw
            case rel => exact ⟨i + 1, sl, sh, hlt, by go_num, HBW, R4, R5, KL, KH⟩
            case measure => simp [intOf]; omega
      · have hin : i = n := by omega
        rw [hin] at R4 R5 KL KH
        have hge : ¬ i < n := by omega
        have hge' : ¬ (i : Int) < (n : Int) := by omega
        have R2 := Lib.hid (keep HBW.out R2.out)
        have R3 := Lib.hid (keep HBW.out R3.out)
        replace hB := bstep hB HBW.out
        have a1 := n2p.out
        have a2 := n2q.out
        have a3 : w.heap.size + 1 ≠ p := by have := LBp.out; omega
        have a4 : w.heap.size + 1 ≠ q := by have := LBq.out; omega
        have a5 := a1.symm
        have a6 := a2.symm
        have a7 := a3.symm
        have a8 := a4.symm
        clear HL HU HZ HK hin hi hlt
        go_upto_region 12 with fail
        obtain ⟨q0, q1, q2, q3, q4, q5, q6, q7, q8⟩ := rowc9 R4.out
        obtain ⟨r0, r1, r2, r3, r4, r5, r6, r7, r8⟩ := rowc9 R5.out
        obtain ⟨s0, s1, s2, s3, s4, s5, s6, s7, s8, s9, s10, s11, s12, s13, s14, s15, s16, s17⟩ := row9 R2.out
        obtain ⟨t0, t1, t2, t3, t4, t5, t6, t7, t8, t9, t10, t11, t12, t13, t14, t15, t16, t17⟩ := row9 R3.out
        go_region
        all_goals
          clear q0 r0 q1 r1 q2 r2 q3 r3 q4 r4 q5 r5 q6 r6 q7 r7 q8 r8 s0 t0 s1 t1 s2 t2 s3 t3 s4 t4 s5 t5 s6 t6 s7 t7 s8 t8 s9 t9 s10 t10 s11 t11 s12 t12 s13 t13 s14 t14 s15 t15 s16 t16 s17 t17
          generalize hZ : World.drew _ = Z
          obtain ⟨E2, E3, EV, EB⟩ := pair_end hZ (show w.heap.size + 1 ≠ w.heap.size by omega) R2.out R3.out
          have KL2 := EV _ _ KL.out
          have KH2 := EV _ _ KH.out
          have hB2 := EB _ _ (Nat.le_refl _) (Nat.le_succ _) hB
          clear hZ EV EB R2 R3 R4 R5 KL KH hB
          go_wp2_with fail
          exact bodyPost_ret (res_cc rfl v16_row v16_row rfl rfl E2 E3 rfl rfl) rfl ⟨sl, sh, rfl, KL2, KH2, hB2⟩

end Go.Proofs.YthkkdepppjiaeaaGreatDoor

/- The reference of layer 16: Extent. -/
namespace Go.Proofs.YthkkdepppjiaeaaGreatDoor
open Go.RowKit Go.Shelf Go.Sort

attribute [local go_sem] Oper.semAt_some
attribute [local go_sem ↓ high] storeAt_fr loadAt_fr
attribute [local go_sem high] run_storeAt_fr run_storeAt_frN


set_option maxRecDepth 100000 in
set_option maxHeartbeats 4000000 in
theorem r16_Extent_err (A : Option Addr) (n c : Nat) (h t : ByteArray) (cc : Int) (w : World) (hc1 : (cc != 0) = true)
    (hs : ∀ W, Below w.heap.size w W → Calls Tryz.prog 85 #[.slice A n c, .agg #[.string h, .string t]] W fun e w' => e = .returned (.tuple #[.agg #[.bool false, .slice none 0 0, .slice none 0 0, .bool false, .slice none 0 0, .slice none 0 0, .bool false, .slice none 0 0, .slice none 0 0, .bool false, .slice none 0 0, .slice none 0 0, .bool false, .slice none 0 0, .slice none 0 0, .bool false, .slice none 0 0, .slice none 0 0, .bool false, .slice none 0 0, .slice none 0 0, .bool false, .slice none 0 0, .slice none 0 0, .bool false, .slice none 0 0, .slice none 0 0], .slice none 0 0, .int .i64 cc]) ∧ Below W.heap.size W w') :
    Calls Tryz.prog 41 #[.slice A n c, .agg #[.string h, .string t]] w fun e w' => e = .returned (.tuple #[.agg #[.string ⟨#[]⟩, .string ⟨#[]⟩, .string ⟨#[]⟩, .string ⟨#[]⟩, .string ⟨#[]⟩, .string ⟨#[]⟩], .int .i64 cc]) ∧ Below w.heap.size w w' := by
  have HS := Lib.hid hs
  clear hs
  go_enter Tryz.func41, Tryz.ntmps41
  go_upto_region 1 with fail
  generalize hW : (World.alloc w _).alloc _ = W
  obtain ⟨hB, hsz, R3, R4⟩ := A2 hW
  have R3 := Lib.hid R3
  have R4 := Lib.hid R4
  clear hW hsz
  obtain ⟨c0, c1, f0, f1⟩ := row2 R3.out
  go_wp2_with fail
  clear c0 c1 f0 f1
  refine (HS.out _ hB).mono ?_
  rintro e w1 ⟨rfl, hb⟩
  replace hB := bstep hB hb
  have R4 := Lib.hid (keep hb R4.out)
  clear hb
  go_upto_region 3 with fail
  generalize hW : World.alloc _ _ = V
  obtain ⟨hb, hsz, R6⟩ := A1 hW
  replace hB := bstep hB hb
  have R4 := Lib.hid (keep hb R4.out)
  clear hb
  have R6 := Lib.hid R6
  clear hW hsz
  obtain ⟨q0, q1, q2, q3, q4, q5, q6, q7, q8, q9, q10, q11⟩ := row6f R4.out
  go_wp2_with fail
  exact bodyPost_ret (res_ct rfl spot_row rfl (store6 R4.out _ _ _ _ _ _) rfl) rfl ⟨rfl, store6_below hB (by omega) _ _ _ _ _ _⟩


set_option maxRecDepth 100000 in
set_option maxHeartbeats 16000000 in
theorem r16_Extent_ok (b o n c : Nat) (h t : ByteArray) (b0 b1 b2 b3 b4 b5 b6 b7 b8 : Bool) (X : Nat → V3) (w : World) (hn1 : 1 ≤ n) (hn2 : n ≤ 512) (hz : ∀ v, v < n * 3 → SzV 20000000 (X v))
    (hs : ∀ W, Below w.heap.size w W → Calls Tryz.prog 85 #[.slice (some ⟨b, o, none⟩) n c, .agg #[.string h, .string t]] W fun e w' => ∃ (f : Value) (g cap : Nat) (U : Nat → VS), (∃ (fA fS fU : VS), f = .agg #[.bool b0, .slice fA.x.p.A fA.x.p.n fA.x.p.c, .slice fA.x.d.A fA.x.d.n fA.x.d.c, .bool b1, .slice fA.y.p.A fA.y.p.n fA.y.p.c, .slice fA.y.d.A fA.y.d.n fA.y.d.c, .bool b2, .slice fA.z.p.A fA.z.p.n fA.z.p.c, .slice fA.z.d.A fA.z.d.n fA.z.d.c, .bool b3, .slice fS.x.p.A fS.x.p.n fS.x.p.c, .slice fS.x.d.A fS.x.d.n fS.x.d.c, .bool b4, .slice fS.y.p.A fS.y.p.n fS.y.p.c, .slice fS.y.d.A fS.y.d.n fS.y.d.c, .bool b5, .slice fS.z.p.A fS.z.p.n fS.z.p.c, .slice fS.z.d.A fS.z.d.n fS.z.d.c, .bool b6, .slice fU.x.p.A fU.x.p.n fU.x.p.c, .slice fU.x.d.A fU.x.d.n fU.x.d.c, .bool b7, .slice fU.y.p.A fU.y.p.n fU.y.p.c, .slice fU.y.d.A fU.y.d.n fU.y.d.c, .bool b8, .slice fU.z.p.A fU.z.p.n fU.z.p.c, .slice fU.z.d.A fU.z.d.n fU.z.d.c]) ∧ e = .returned (.tuple #[f, .slice (some ⟨g, 0, none⟩) n cap, .int .i64 0]) ∧ LAt w' g cap n X U ∧ (∀ v, v < n * 3 → RV w' (U v) (X v)) ∧ Below W.heap.size W w') :
    Calls Tryz.prog 41 #[.slice (some ⟨b, o, none⟩) n c, .agg #[.string h, .string t]] w fun e w' => e = .returned (.tuple #[.agg #[.string (rs (lowR X (n * 3)).x), .string (rs (highR X (n * 3)).x), .string (rs (lowR X (n * 3)).y), .string (rs (highR X (n * 3)).y), .string (rs (lowR X (n * 3)).z), .string (rs (highR X (n * 3)).z)], .int .i64 0]) ∧ Below w.heap.size w w' := by
  have HS := Lib.hid hs
  have HK := sz_lowR (n := n * 3) hz (by omega) (n * 3) (Nat.le_refl _)
  have Tx := Lib.hid (fun W p d s t (k1 : RQ W p d (lowR X (n * 3)).x) (k2 : RQ W s t (highR X (n * 3)).x) => r16_Between _ _ p d s t W k1 k2 HK.1.1 HK.2.1)
  have Ty := Lib.hid (fun W p d s t (k1 : RQ W p d (lowR X (n * 3)).y) (k2 : RQ W s t (highR X (n * 3)).y) => r16_Between _ _ p d s t W k1 k2 HK.1.2.1 HK.2.2.1)
  have Tz := Lib.hid (fun W p d s t (k1 : RQ W p d (lowR X (n * 3)).z) (k2 : RQ W s t (highR X (n * 3)).z) => r16_Between _ _ p d s t W k1 k2 HK.1.2.2 HK.2.2.2)
  have HZ := Lib.hid hz
  clear hs hz HK
  go_enter Tryz.func41, Tryz.ntmps41
  go_upto_region 1 with fail
  generalize hW : (World.alloc w _).alloc _ = W
  obtain ⟨hB, hsz, R3, R4⟩ := A2 hW
  have R3 := Lib.hid R3
  have R4 := Lib.hid R4
  clear hW hsz
  obtain ⟨c0, c1, f0, f1⟩ := row2 R3.out
  go_wp2_with fail
  clear c0 c1 f0 f1
  refine (HS.out _ hB).mono ?_
  rintro e w1 ⟨f, g, cap, U, ⟨fA, fS, fU, rfl⟩, rfl, hL, hU, hb⟩
  replace hB := bstep hB hb
  have R4 := Lib.hid (keep hb R4.out)
  have HL := Lib.hid hL
  have HU := Lib.hid hU
  clear hb hL hU R3
  go_upto_region 4 with fail
  generalize hY : World.alloc w1 _ = Y
  obtain ⟨hb, hsz, R6⟩ := A1 hY
  replace hB := bstep hB hb
  have R4 := Lib.hid (keep hb R4.out)
  have HL := Lib.hid (HL.out.below hb)
  have HU := Lib.hid (fun v hv => (HU.out v hv).below hb)
  clear hY hsz hb R6
  go_wp2_with fail
  refine (r16_Reach g cap n X U Y hn1 hn2 HL.out HU.out HZ.out).mono ?_
  rintro e w2 ⟨sl, sh, rfl, KL, KH, hb⟩
  replace hB := bstep hB hb
  have R4 := Lib.hid (keep hb R4.out)
  have KL := Lib.hid KL
  have KH := Lib.hid KH
  have n9 := Lib.hid (show w.heap.size + 1 ≠ w2.heap.size by have := lt_of_row R4.out; omega)
  have n10 := Lib.hid (show w.heap.size + 1 ≠ w2.heap.size + 1 by have := lt_of_row R4.out; omega)
  clear hb HL HU HZ hn1 hn2
  go_upto_region 5 with fail
  generalize hW : (World.alloc _ _).alloc _ = V
  obtain ⟨hb, hsz, R9, R10⟩ := A2 hW
  replace hB := bstep hB hb
  have R4 := Lib.hid (keep hb R4.out)
  have KL := Lib.hid (KL.out.below hb)
  have KH := Lib.hid (KH.out.below hb)
  clear hb
  have R9 := Lib.hid R9
  have R10 := Lib.hid R10
  clear hW hsz
  have KLx := Lib.hid KL.out.x
  have KLy := Lib.hid KL.out.y
  have KLz := Lib.hid KL.out.z
  have KHx := Lib.hid KH.out.x
  have KHy := Lib.hid KH.out.y
  have KHz := Lib.hid KH.out.z
  clear KL KH
  generalize w2.heap.size = g9 at *
  generalize sgB (lowR X (n * 3)).x.num = blx at *
  generalize sgB (lowR X (n * 3)).y.num = bly at *
  generalize sgB (lowR X (n * 3)).z.num = blz at *
  generalize sgB (highR X (n * 3)).x.num = bhx at *
  generalize sgB (highR X (n * 3)).y.num = bhy at *
  generalize sgB (highR X (n * 3)).z.num = bhz at *
  have LR9 := fun (w' : World) (h : Ap (w.heap.size + 1) (w.heap.size + 1) V w') => rowc9 (h.row R9.out n9.out.symm n9.out.symm)
  have LR10 := fun (w' : World) (h : Ap (w.heap.size + 1) (w.heap.size + 1) V w') => rowc9 (h.row R10.out n10.out.symm n10.out.symm)
  have hvr := Below.refl V.heap.size V
  have hv0 := hvr.drew
  first
  | go_region_held3 (fun w' => Ap (w.heap.size + 1) (w.heap.size + 1) V w') (first | (with_reducible assumption) | (with_reducible exact Ap.refl _ _ _) | ((repeat (first | with_reducible assumption | with_reducible exact Ap.refl _ _ _ | with_reducible refine Ap.drew ?_ | with_reducible refine Ap.alloc ?_ | with_reducible refine Ap.set1 ?_ | with_reducible refine Ap.set2 ?_ | with_reducible refine Ap.setN (by first | with_reducible assumption | with_reducible exact Nat.le_refl _ | with_reducible exact Nat.le_add_right _ _ | with_reducible exact Nat.le_trans (by assumption) (Nat.le_add_right _ _)) ?_)); done))
      (first
        | (go_at_call 87; (with_reducible refine (Tx.out _  sl.x.p sl.x.d sh.x.p sh.x.d (by first | with_reducible exact KLx.out | with_reducible exact (KLx.out.below (Below.drew (Below.refl _ _)))) (by first | with_reducible exact KHx.out | with_reducible exact (KHx.out.below (Below.drew (Below.refl _ _))))).mono ?_); rintro e wq0 ⟨rfl, hb⟩; have hv1 : Below V.heap.size V wq0 := (by first | with_reducible exact bstep (hv0) hb); have hs1 := Ap.of_below (g := w.heap.size + 1) (h := w.heap.size + 1) hv1; have sz1 := hv1.size; have KLx := Lib.hid (by first | with_reducible exact KLx.out.below hb | with_reducible exact (KLx.out.below (Below.drew (Below.refl _ _))).below hb); have KLy := Lib.hid (by first | with_reducible exact KLy.out.below hb | with_reducible exact (KLy.out.below (Below.drew (Below.refl _ _))).below hb); have KLz := Lib.hid (by first | with_reducible exact KLz.out.below hb | with_reducible exact (KLz.out.below (Below.drew (Below.refl _ _))).below hb); have KHx := Lib.hid (by first | with_reducible exact KHx.out.below hb | with_reducible exact (KHx.out.below (Below.drew (Below.refl _ _))).below hb); have KHy := Lib.hid (by first | with_reducible exact KHy.out.below hb | with_reducible exact (KHy.out.below (Below.drew (Below.refl _ _))).below hb); have KHz := Lib.hid (by first | with_reducible exact KHz.out.below hb | with_reducible exact (KHz.out.below (Below.drew (Below.refl _ _))).below hb); clear hb)
        | (go_at_call 87; (with_reducible refine (Ty.out _  sl.y.p sl.y.d sh.y.p sh.y.d (by first | with_reducible exact KLy.out | with_reducible exact (KLy.out.below (Below.drew (Below.refl _ _)))) (by first | with_reducible exact KHy.out | with_reducible exact (KHy.out.below (Below.drew (Below.refl _ _))))).mono ?_); rintro e wq1 ⟨rfl, hb⟩; have hv2 : Below V.heap.size V wq1 := (by first | with_reducible exact bstep (hv1) hb); have hs2 := Ap.of_below (g := w.heap.size + 1) (h := w.heap.size + 1) hv2; have sz2 := hv2.size; have KLx := Lib.hid (by first | with_reducible exact KLx.out.below hb | with_reducible exact (KLx.out.below (Below.drew (Below.refl _ _))).below hb); have KLy := Lib.hid (by first | with_reducible exact KLy.out.below hb | with_reducible exact (KLy.out.below (Below.drew (Below.refl _ _))).below hb); have KLz := Lib.hid (by first | with_reducible exact KLz.out.below hb | with_reducible exact (KLz.out.below (Below.drew (Below.refl _ _))).below hb); have KHx := Lib.hid (by first | with_reducible exact KHx.out.below hb | with_reducible exact (KHx.out.below (Below.drew (Below.refl _ _))).below hb); have KHy := Lib.hid (by first | with_reducible exact KHy.out.below hb | with_reducible exact (KHy.out.below (Below.drew (Below.refl _ _))).below hb); have KHz := Lib.hid (by first | with_reducible exact KHz.out.below hb | with_reducible exact (KHz.out.below (Below.drew (Below.refl _ _))).below hb); clear hb)
        | (go_at_call 87; (with_reducible refine (Tz.out _  sl.z.p sl.z.d sh.z.p sh.z.d (by first | with_reducible exact KLz.out | with_reducible exact (KLz.out.below (Below.drew (Below.refl _ _)))) (by first | with_reducible exact KHz.out | with_reducible exact (KHz.out.below (Below.drew (Below.refl _ _))))).mono ?_); rintro e wq2 ⟨rfl, hb⟩; have hv3 : Below V.heap.size V wq2 := (by first | with_reducible exact bstep (hv2) hb); have hs3 := Ap.of_below (g := w.heap.size + 1) (h := w.heap.size + 1) hv3; have sz3 := hv3.size; have KLx := Lib.hid (by first | with_reducible exact KLx.out.below hb | with_reducible exact (KLx.out.below (Below.drew (Below.refl _ _))).below hb); have KLy := Lib.hid (by first | with_reducible exact KLy.out.below hb | with_reducible exact (KLy.out.below (Below.drew (Below.refl _ _))).below hb); have KLz := Lib.hid (by first | with_reducible exact KLz.out.below hb | with_reducible exact (KLz.out.below (Below.drew (Below.refl _ _))).below hb); have KHx := Lib.hid (by first | with_reducible exact KHx.out.below hb | with_reducible exact (KHx.out.below (Below.drew (Below.refl _ _))).below hb); have KHy := Lib.hid (by first | with_reducible exact KHy.out.below hb | with_reducible exact (KHy.out.below (Below.drew (Below.refl _ _))).below hb); have KHz := Lib.hid (by first | with_reducible exact KHz.out.below hb | with_reducible exact (KHz.out.below (Below.drew (Below.refl _ _))).below hb); have RoX := keep hv3 R4.out; obtain ⟨RoF0, RoF1, RoF2, RoF3, RoF4, RoF5, RoF6, RoF7, RoF8, RoF9, RoF10, RoF11⟩ := row6f RoX; clear hb))
  | fail
  all_goals
    go_wp2_with fail
    exact bodyPost_ret (res_ct rfl spot_row rfl (store6 RoX _ _ _ _ _ _) rfl) rfl ⟨rfl, store6_below (bstep hB hv3) (by omega) _ _ _ _ _ _⟩
end Go.Proofs.YthkkdepppjiaeaaGreatDoor
