/- A PART OF THE PROOF, JOINED OUT OF 2 TEXTS. -/
import Derived.Test.YtgbabmkclojgeaaGreatDoorQlVector
/- The reference of layer 11: From, Valid. -/
namespace Go.Proofs.YtgbabmkclojgeaaGreatDoor
open Go.RowKit Go.Shelf Go.Sort

attribute [local go_sem] Oper.semAt_some

set_option maxRecDepth 100000 in
set_option maxHeartbeats 16000000 in
theorem r11_From (s : ByteArray × ByteArray × ByteArray) (w : World) (hs : Sh6 s) :
    Calls Tryz.prog 80 #[txW s] w fun e w' => ∃ u : VS, e = .returned (.tuple #[vW (sgB (vvX s).x.num) (sgB (vvX s).y.num) (sgB (vvX s).z.num) u, .bool (vvB s)]) ∧ RV w' u (vvX s) ∧ Below w.heap.size w w' := by
  obtain ⟨s0, s1, s2⟩ := s
  have H0 := Lib.hid (fun W => r3_From s0 W hs.1)
  have H1 := Lib.hid (fun W => r3_From s1 W hs.2.1)
  have H2 := Lib.hid (fun W => r3_From s2 W hs.2.2)
  have HF := Lib.hid (fun W p0 d0 p1 d1 p2 d2 (h0 : RQ W p0 d0 (rvX s0)) (h1 : RQ W p1 d1 (rvX s1)) (h2 : RQ W p2 d2 (rvX s2)) => (show RV W ⟨⟨p0, d0⟩, ⟨p1, d1⟩, ⟨p2, d2⟩⟩ (vvX (s0, s1, s2)) from ⟨h0, h1, h2⟩))
  unfold FrP at H0 H1 H2
  unfold vvB txW
  rw [show (vvX (s0, s1, s2)).x = rvX s0 from rfl, show (vvX (s0, s1, s2)).y = rvX s1 from rfl, show (vvX (s0, s1, s2)).z = rvX s2 from rfl]
  simp only
  clear hs
  generalize vvX (s0, s1, s2) = v at *
  generalize rvX s0 = x0 at *
  generalize rvX s1 = x1 at *
  generalize rvX s2 = x2 at *
  generalize sgB x0.num = b0 at *
  generalize sgB x1.num = b1 at *
  generalize sgB x2.num = b2 at *
  generalize rvB s0 = k0 at *
  generalize rvB s1 = k1 at *
  generalize rvB s2 = k2 at *
  go_enter Tryz.func80, Tryz.ntmps80
  go_wp2_with fail
  generalize hW : (World.alloc w _).alloc _ = W
  obtain ⟨hB, hsz, R1, R2⟩ := A2 hW
  have R1 := Lib.hid R1
  have R2 := Lib.hid R2
  clear hW hsz
  refine (H0.out _).mono ?_
  rintro e w1 ⟨p0, d0, rfl, h0, hb⟩
  replace hB := bstep hB hb
  have R1 := Lib.hid (keep hb R1.out)
  have R2 := Lib.hid (keep hb R2.out)
  have K0 := Lib.hid h0
  clear h0
  clear hb
  go_upto_region 2 with fail
  generalize hW : World.alloc _ _ = V
  obtain ⟨hb, hsz, R4⟩ := A1 hW
  replace hB := bstep hB hb
  have R1 := Lib.hid (keep hb R1.out)
  have R2 := Lib.hid (keep hb R2.out)
  have K0 := Lib.hid (K0.out.below hb)
  clear hb
  have R4 := Lib.hid R4
  clear hW hsz
  obtain ⟨R1c0, R1c1, R1c2, R1f0, R1f1, R1f2⟩ := row3 R1.out
  go_wp2_with fail
  clear R1c0 R1c1 R1c2 R1f0 R1f1 R1f2
  refine (H1.out _).mono ?_
  rintro e w2 ⟨p1, d1, rfl, h1, hb⟩
  replace hB := bstep hB hb
  have R1 := Lib.hid (keep hb R1.out)
  have R2 := Lib.hid (keep hb R2.out)
  have R4 := Lib.hid (keep hb R4.out)
  have K0 := Lib.hid (K0.out.below hb)
  have K1 := Lib.hid h1
  clear h1
  clear hb
  go_upto_region 3 with fail
  generalize hW : World.alloc _ _ = V2
  obtain ⟨hb, hsz, R6⟩ := A1 hW
  replace hB := bstep hB hb
  have R1 := Lib.hid (keep hb R1.out)
  have R2 := Lib.hid (keep hb R2.out)
  have R4 := Lib.hid (keep hb R4.out)
  have K0 := Lib.hid (K0.out.below hb)
  have K1 := Lib.hid (K1.out.below hb)
  clear hb
  have R6 := Lib.hid R6
  clear hW hsz
  obtain ⟨R1c0, R1c1, R1c2, R1f0, R1f1, R1f2⟩ := row3 R1.out
  go_wp2_with fail
  clear R1c0 R1c1 R1c2 R1f0 R1f1 R1f2
  refine (H2.out _).mono ?_
  rintro e w3 ⟨p2, d2, rfl, h2, hb⟩
  replace hB := bstep hB hb
  have R2 := Lib.hid (keep hb R2.out)
  have R4 := Lib.hid (keep hb R4.out)
  have R6 := Lib.hid (keep hb R6.out)
  have K0 := Lib.hid (K0.out.below hb)
  have K1 := Lib.hid (K1.out.below hb)
  have K2 := Lib.hid h2
  clear h2
  clear hb
  go_upto_region 4 with fail
  generalize hW : World.alloc _ _ = V3
  obtain ⟨hb, hsz, R8⟩ := A1 hW
  replace hB := bstep hB hb
  have R2 := Lib.hid (keep hb R2.out)
  have R4 := Lib.hid (keep hb R4.out)
  have R6 := Lib.hid (keep hb R6.out)
  have K0 := Lib.hid (K0.out.below hb)
  have K1 := Lib.hid (K1.out.below hb)
  have K2 := Lib.hid (K2.out.below hb)
  clear hb
  have R8 := Lib.hid R8
  clear hW hsz
  obtain ⟨R4c0, R4c1, R4c2, R4f0, R4f1, R4f2⟩ := row3 R4.out
  obtain ⟨R6c0, R6c1, R6c2, R6f0, R6f1, R6f2⟩ := row3 R6.out
  obtain ⟨R8c0, R8c1, R8c2, R8f0, R8f1, R8f2⟩ := row3 R8.out
  obtain ⟨g0, g1, g2, g3, g4, g5, g6, g7, g8, g9, g10, g11, g12, g13, g14, g15, g16, g17⟩ := row9 R2.out
  cases k0 <;> cases k1 <;> cases k2
  all_goals
    go_wp2_with fail
    exact bodyPost_ret (res_ct rfl v_row rfl (store9 R2.out _ _ _ _ _ _ _ _ _) rfl) rfl ⟨_, rfl, (HF.out _ _ _ _ _ _ _ K0.out K1.out K2.out).store9 R2.out, store9_below hB (by omega) _ _ _ _ _ _ _ _ _⟩

set_option maxRecDepth 100000 in
set_option maxHeartbeats 16000000 in
theorem r11_Valid (s : ByteArray × ByteArray × ByteArray) (w : World) (hs : Sh6 s) :
    Calls Tryz.prog 33 #[txW s] w fun e w' => e = .returned (.bool (vvB s)) ∧ Below w.heap.size w w' := by
  have H0 := Lib.hid (fun W => r11_From s W hs)
  obtain ⟨s0, s1, s2⟩ := s
  unfold txW at *
  simp only at *
  clear hs
  generalize vvX (s0, s1, s2) = v at *
  generalize vvB (s0, s1, s2) = k at *
  generalize sgB v.x.num = b0 at *
  generalize sgB v.y.num = b1 at *
  generalize sgB v.z.num = b2 at *
  go_enter Tryz.func33, Tryz.ntmps33
  go_wp2_with fail
  generalize hW : World.alloc w _ = W
  obtain ⟨hB, hsz, R1⟩ := A1 hW
  have R1 := Lib.hid R1
  clear hW hsz
  refine (H0.out _).mono ?_
  rintro e w1 ⟨u, rfl, h0, hb⟩
  replace hB := bstep hB hb
  have R1 := Lib.hid (keep hb R1.out)
  have K0 := Lib.hid h0
  clear h0
  clear hb
  go_upto_region 2 with fail
  generalize hW : World.alloc _ _ = V
  obtain ⟨hb, hsz, R4⟩ := A1 hW
  replace hB := bstep hB hb
  clear hb
  have R4 := Lib.hid R4
  clear hW hsz
  go_wp2_with fail
  go_ret
  exact ⟨rfl, hB⟩
end Go.Proofs.YtgbabmkclojgeaaGreatDoor

/- The reference of layer 11: both. -/
namespace Go.Proofs.YtgbabmkclojgeaaGreatDoor
open Go.RowKit Go.Shelf Go.Sort

attribute [local go_sem] Oper.semAt_some

theorem RV.drew {W : World} {s : VS} {a : V3} (h : RV W s a) : RV W.drew s a := h.below (Below.drew (Below.refl _ W))
theorem both_end {V Z : World} {g f : Nat} {x0 y0 p0 q0 : Bool} {x1 x2 x3 x4 x5 x6 x7 x8 y1 y2 y3 y4 y5 y6 y7 y8 p1 p2 p3 p4 p5 p6 p7 p8 q1 q2 q3 q4 q5 q6 q7 q8 : Value} {t t' : TypeId} (hZ : (((((((((((((((((((V.setCell ⟨g, 0, none⟩ (.bool p0)).setCell ⟨g, 1, none⟩ p1).setCell ⟨g, 2, none⟩ p2).setCell ⟨g, 3, none⟩ p3).setCell ⟨g, 4, none⟩ p4).setCell ⟨g, 5, none⟩ p5).setCell ⟨g, 6, none⟩ p6).setCell ⟨g, 7, none⟩ p7).setCell ⟨g, 8, none⟩ p8).setCell ⟨f, 0, none⟩ (.bool q0)).setCell ⟨f, 1, none⟩ q1).setCell ⟨f, 2, none⟩ q2).setCell ⟨f, 3, none⟩ q3).setCell ⟨f, 4, none⟩ q4).setCell ⟨f, 5, none⟩ q5).setCell ⟨f, 6, none⟩ q6).setCell ⟨f, 7, none⟩ q7).setCell ⟨f, 8, none⟩ q8)).drew = Z) (hne : f ≠ g)
    (h4 : V.heap[g]? = some (.cells #[.bool x0, x1, x2, x3, x4, x5, x6, x7, x8] t (0, 0))) (h5 : V.heap[f]? = some (.cells #[.bool y0, y1, y2, y3, y4, y5, y6, y7, y8] t' (0, 0))) :
    Z.heap[g]? = some (.cells #[.bool p0, p1, p2, p3, p4, p5, p6, p7, p8] t (0, 0)) ∧ Z.heap[f]? = some (.cells #[.bool q0, q1, q2, q3, q4, q5, q6, q7, q8] t' (0, 0)) ∧ (∀ s a, RV V s a → RV Z s a) ∧ (∀ B w, B ≤ g → B ≤ f → Below B w V → Below B w Z) := by
  subst hZ
  have h6 := store9_other hne h5 (.bool p0) p1 p2 p3 p4 p5 p6 p7 p8
  exact ⟨oldD (store9_other (Ne.symm hne) (store9 h4 _ _ _ _ _ _ _ _ _) _ _ _ _ _ _ _ _ _), oldD (store9 h6 _ _ _ _ _ _ _ _ _), fun s a h => ((h.store9 h4).store9 h6).drew, fun B w b1 b2 h => Below.drew (store9_below (store9_below h b1 _ _ _ _ _ _ _ _ _) b2 _ _ _ _ _ _ _ _ _)⟩

theorem s9a {V : World} {g k j : Nat} {o p : Obj} {u0 u1 u2 u3 u4 u5 u6 u7 u8 : Value} (m1 : k ≠ g) (m2 : j ≠ g) (h7 : V.heap[k]? = some o) (h9 : V.heap[j]? = some p) : ((((((((((V.setCell ⟨g, 0, none⟩ u0).setCell ⟨g, 1, none⟩ u1).setCell ⟨g, 2, none⟩ u2).setCell ⟨g, 3, none⟩ u3).setCell ⟨g, 4, none⟩ u4).setCell ⟨g, 5, none⟩ u5).setCell ⟨g, 6, none⟩ u6).setCell ⟨g, 7, none⟩ u7).setCell ⟨g, 8, none⟩ u8)).drew.heap[k]? = some o ∧ ((((((((((V.setCell ⟨g, 0, none⟩ u0).setCell ⟨g, 1, none⟩ u1).setCell ⟨g, 2, none⟩ u2).setCell ⟨g, 3, none⟩ u3).setCell ⟨g, 4, none⟩ u4).setCell ⟨g, 5, none⟩ u5).setCell ⟨g, 6, none⟩ u6).setCell ⟨g, 7, none⟩ u7).setCell ⟨g, 8, none⟩ u8)).drew.heap[j]? = some p :=
  ⟨oldD (store9_other m1 h7 _ _ _ _ _ _ _ _ _), oldD (store9_other m2 h9 _ _ _ _ _ _ _ _ _)⟩
theorem s9b {V : World} {g f k j : Nat} {o p : Obj} {u0 u1 u2 u3 u4 u5 u6 u7 u8 v0 v1 v2 v3 v4 v5 v6 v7 v8 : Value} (m1 : k ≠ g) (m2 : j ≠ g) (m3 : k ≠ f) (m4 : j ≠ f) (h7 : V.heap[k]? = some o) (h9 : V.heap[j]? = some p) : (((((((((((((((((((V.setCell ⟨g, 0, none⟩ u0).setCell ⟨g, 1, none⟩ u1).setCell ⟨g, 2, none⟩ u2).setCell ⟨g, 3, none⟩ u3).setCell ⟨g, 4, none⟩ u4).setCell ⟨g, 5, none⟩ u5).setCell ⟨g, 6, none⟩ u6).setCell ⟨g, 7, none⟩ u7).setCell ⟨g, 8, none⟩ u8).setCell ⟨f, 0, none⟩ v0).setCell ⟨f, 1, none⟩ v1).setCell ⟨f, 2, none⟩ v2).setCell ⟨f, 3, none⟩ v3).setCell ⟨f, 4, none⟩ v4).setCell ⟨f, 5, none⟩ v5).setCell ⟨f, 6, none⟩ v6).setCell ⟨f, 7, none⟩ v7).setCell ⟨f, 8, none⟩ v8)).drew.heap[k]? = some o ∧ (((((((((((((((((((V.setCell ⟨g, 0, none⟩ u0).setCell ⟨g, 1, none⟩ u1).setCell ⟨g, 2, none⟩ u2).setCell ⟨g, 3, none⟩ u3).setCell ⟨g, 4, none⟩ u4).setCell ⟨g, 5, none⟩ u5).setCell ⟨g, 6, none⟩ u6).setCell ⟨g, 7, none⟩ u7).setCell ⟨g, 8, none⟩ u8).setCell ⟨f, 0, none⟩ v0).setCell ⟨f, 1, none⟩ v1).setCell ⟨f, 2, none⟩ v2).setCell ⟨f, 3, none⟩ v3).setCell ⟨f, 4, none⟩ v4).setCell ⟨f, 5, none⟩ v5).setCell ⟨f, 6, none⟩ v6).setCell ⟨f, 7, none⟩ v7).setCell ⟨f, 8, none⟩ v8)).drew.heap[j]? = some p :=
  ⟨oldD (store9_other m3 (store9_other m1 h7 _ _ _ _ _ _ _ _ _) _ _ _ _ _ _ _ _ _), oldD (store9_other m4 (store9_other m2 h9 _ _ _ _ _ _ _ _ _) _ _ _ _ _ _ _ _ _)⟩

set_option maxRecDepth 100000 in
set_option maxHeartbeats 16000000 in
theorem r11_both (s t : ByteArray × ByteArray × ByteArray) (w : World) (hs : Sh6 s) (ht : Sh6 t) :
    Calls Tryz.prog 72 #[txW s, txW t] w fun e w' => ∃ u v : VS, e = .returned (.tuple #[vW (sgB (vvX s).x.num) (sgB (vvX s).y.num) (sgB (vvX s).z.num) u, vW (sgB (vvX t).x.num) (sgB (vvX t).y.num) (sgB (vvX t).z.num) v, .int .i64 (if (vvB s && vvB t) = true then 0 else 1)]) ∧ RV w' u (vvX s) ∧ RV w' v (vvX t) ∧ Below w.heap.size w w' := by
  have H0 := Lib.hid (fun W => r11_From s W hs)
  have H1 := Lib.hid (fun W => r11_From t W ht)
  obtain ⟨s0, s1, s2⟩ := s
  obtain ⟨t0, t1, t2⟩ := t
  unfold txW at *
  simp only at *
  clear hs ht
  generalize vvX (s0, s1, s2) = a at *
  generalize vvX (t0, t1, t2) = b at *
  generalize vvB (s0, s1, s2) = k at *
  generalize vvB (t0, t1, t2) = j at *
  generalize sgB a.x.num = a0 at *
  generalize sgB a.y.num = a1 at *
  generalize sgB a.z.num = a2 at *
  generalize sgB b.x.num = b0 at *
  generalize sgB b.y.num = b1 at *
  generalize sgB b.z.num = b2 at *
  obtain ⟨cc, hcc⟩ : ∃ cc : Int, cc = if (k && j) = true then 0 else 1 := ⟨_, rfl⟩
  have HC := Lib.hid hcc
  rw [← hcc]
  clear hcc
  go_enter Tryz.func72, Tryz.ntmps72
  go_wp2_with fail
  generalize hW : (((World.alloc w _).alloc _).alloc _).alloc _ = W
  obtain ⟨hB, hsz, R2, R3, R4, R5⟩ := A4 hW
  have R2 := Lib.hid R2
  have R3 := Lib.hid R3
  have R4 := Lib.hid R4
  have R5 := Lib.hid R5
  clear hW hsz
  refine (H0.out _).mono ?_
  rintro e w1 ⟨u, rfl, h0, hb⟩
  replace hB := bstep hB hb
  have R3 := Lib.hid (keep hb R3.out)
  have R4 := Lib.hid (keep hb R4.out)
  have R5 := Lib.hid (keep hb R5.out)
  have K0 := Lib.hid h0
  clear h0
  clear hb
  go_upto_region 2 with fail
  have HN7 : Hid (w.heap.size + 3 < w1.heap.size) := Lib.hid (lt_of_row R5.out)
  generalize hW : World.alloc _ _ = V
  obtain ⟨hb, hsz, R7⟩ := A1 hW
  replace hB := bstep hB hb
  have R3 := Lib.hid (keep hb R3.out)
  have R4 := Lib.hid (keep hb R4.out)
  have R5 := Lib.hid (keep hb R5.out)
  have K0 := Lib.hid (K0.out.below hb)
  clear hb
  have R7 := Lib.hid R7
  clear hW hsz
  obtain ⟨R3c0, R3c1, R3c2, R3f0, R3f1, R3f2⟩ := row3 R3.out
  go_wp2_with fail
  clear R3c0 R3c1 R3c2 R3f0 R3f1 R3f2
  refine (H1.out _).mono ?_
  rintro e w2 ⟨v, rfl, h1, hb⟩
  replace hB := bstep hB hb
  have R4 := Lib.hid (keep hb R4.out)
  have R5 := Lib.hid (keep hb R5.out)
  have R7 := Lib.hid (keep hb R7.out)
  have K0 := Lib.hid (K0.out.below hb)
  have K1 := Lib.hid h1
  clear h1
  clear hb
  go_upto_region 3 with fail
  have n7 := HN7.out
  have n9 : w.heap.size + 3 < w2.heap.size := lt_of_row R5.out
  generalize hW : World.alloc _ _ = V2
  obtain ⟨hb, hsz, R9⟩ := A1 hW
  replace hB := bstep hB hb
  have R4 := Lib.hid (keep hb R4.out)
  have R5 := Lib.hid (keep hb R5.out)
  have R7 := Lib.hid (keep hb R7.out)
  have K0 := Lib.hid (K0.out.below hb)
  have K1 := Lib.hid (K1.out.below hb)
  clear hb
  have R9 := Lib.hid R9
  clear hW hsz
  have LR7 := fun (w' : World) (h : w'.heap[w1.heap.size]? = some (.cells #[.bool a0, .slice u.x.p.A u.x.p.n u.x.p.c, .slice u.x.d.A u.x.d.n u.x.d.c, .bool a1, .slice u.y.p.A u.y.p.n u.y.p.c, .slice u.y.d.A u.y.d.n u.y.d.c, .bool a2, .slice u.z.p.A u.z.p.n u.z.p.c, .slice u.z.d.A u.z.d.n u.z.d.c] 104 (0, 0))) => rowc9 h
  have LR9 := fun (w' : World) (h : w'.heap[w2.heap.size]? = some (.cells #[.bool b0, .slice v.x.p.A v.x.p.n v.x.p.c, .slice v.x.d.A v.x.d.n v.x.d.c, .bool b1, .slice v.y.p.A v.y.p.n v.y.p.c, .slice v.y.d.A v.y.d.n v.y.d.c, .bool b2, .slice v.z.p.A v.z.p.n v.z.p.c, .slice v.z.d.A v.z.d.n v.z.d.c] 104 (0, 0))) => rowc9 h
  obtain ⟨g0, g1, g2, g3, g4, g5, g6, g7, g8, g9, g10, g11, g12, g13, g14, g15, g16, g17⟩ := row9 R4.out
  obtain ⟨f0, f1, f2, f3, f4, f5, f6, f7, f8, f9, f10, f11, f12, f13, f14, f15, f16, f17⟩ := row9 R5.out
  have M1 := Lib.hid (show w1.heap.size ≠ w.heap.size + 1 + 1 by omega)
  have M2 := Lib.hid (show w1.heap.size ≠ w.heap.size + 1 + 1 + 1 by omega)
  have M3 := Lib.hid (show w2.heap.size ≠ w.heap.size + 1 + 1 by omega)
  have M4 := Lib.hid (show w2.heap.size ≠ w.heap.size + 1 + 1 + 1 by omega)
  cases k <;> cases j
  all_goals
    go_wp2_with fail
    first
    | go_region_held3 (fun w' => w'.heap[w1.heap.size]? = some (.cells #[.bool a0, .slice u.x.p.A u.x.p.n u.x.p.c, .slice u.x.d.A u.x.d.n u.x.d.c, .bool a1, .slice u.y.p.A u.y.p.n u.y.p.c, .slice u.y.d.A u.y.d.n u.y.d.c, .bool a2, .slice u.z.p.A u.z.p.n u.z.p.c, .slice u.z.d.A u.z.d.n u.z.d.c] 104 (0, 0)) ∧ w'.heap[w2.heap.size]? = some (.cells #[.bool b0, .slice v.x.p.A v.x.p.n v.x.p.c, .slice v.x.d.A v.x.d.n v.x.d.c, .bool b1, .slice v.y.p.A v.y.p.n v.y.p.c, .slice v.y.d.A v.y.d.n v.y.d.c, .bool b2, .slice v.z.p.A v.z.p.n v.z.p.c, .slice v.z.d.A v.z.d.n v.z.d.c] 104 (0, 0))) (first | with_reducible exact ⟨R7.out, R9.out⟩ | with_reducible exact ⟨oldD R7.out, oldD R9.out⟩ | with_reducible exact s9b M1.out M3.out M2.out M4.out R7.out R9.out | with_reducible exact s9a M1.out M3.out R7.out R9.out) (fail)
    | fail
    go_wp2_with fail
    have e0 := HC.out
    simp at e0
    subst e0
    generalize hZ : World.drew _ = Z
    have n45 : w.heap.size + 1 + 1 + 1 ≠ w.heap.size + 1 + 1 := by omega
    obtain ⟨E4, E5, EV, EB⟩ := both_end hZ n45 R4.out R5.out
    have k0 := EV _ _ K0.out
    have k1 := EV _ _ K1.out
    have hB := EB _ _ (by omega) (by omega) hB
    clear hZ EV EB
    exact bodyPost_ret (res_cct rfl v_row v_row rfl rfl E4 E5 rfl rfl) rfl ⟨_, _, rfl, k0, k1, hB⟩
end Go.Proofs.YtgbabmkclojgeaaGreatDoor
