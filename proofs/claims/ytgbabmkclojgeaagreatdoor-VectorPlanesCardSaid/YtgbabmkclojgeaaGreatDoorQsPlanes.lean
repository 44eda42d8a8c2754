/- A PART OF THE PROOF, JOINED OUT OF 2 TEXTS. -/
import Derived.Test.YtgbabmkclojgeaaGreatDoorQrPlanes
/- The reference of layer 11: Through, Crossing. -/
namespace Go.Proofs.YtgbabmkclojgeaaGreatDoor
open Go.RowKit Go.Shelf Go.Sort

attribute [local go_sem] Oper.semAt_some

set_option maxRecDepth 100000 in
set_option maxHeartbeats 16000000 in
theorem r11_Through (s t u : ByteArray × ByteArray × ByteArray) (w : World) (hs : Sh20 s) (ht : Sh20 t) (hu : Sh20 u) :
    Calls Tryz.prog 37 #[txW s, txW t, txW u] w fun e w' => e = .returned (.tuple #[tres (vvB s && vvB t && vvB u) (zero3 (nrm (vvX s) (vvX t) (vvX u))) (nrm (vvX s) (vvX t) (vvX u)) (dotV (nrm (vvX s) (vvX t) (vvX u)) (vvX s)), .int .i64 (tcode (vvB s && vvB t && vvB u) (zero3 (nrm (vvX s) (vvX t) (vvX u))))]) ∧ Below w.heap.size w w' := by
  have za := szV_text hs
  have zb := szV_text ht
  have zc := szV_text hu
  have H0 := Lib.hid (fun W => r11_both s t W (sh20_6 hs) (sh20_6 ht))
  have H1 := Lib.hid (fun W => r11_From u W (sh20_6 hu))
  rw [← dotI_eq]
  unfold txW at *
  generalize vvX s = a at *
  generalize vvX t = b at *
  generalize vvX u = c at *
  generalize (vvB s && vvB t) = k at *
  generalize vvB u = j at *
  obtain ⟨s0, s1, s2⟩ := s
  obtain ⟨t0, t1, t2⟩ := t
  obtain ⟨u0, u1, u2⟩ := u
  simp only at *
  clear hs ht hu
  have zd := szV_sub zb za
  have ze := szV_sub zc za
  have zn : SzV (8 * (4 * 21)) (nrm a b c) := szV_cross zd ze
  have zq := sz_dotI zn (za.mono (show 21 ≤ 8 * (4 * 21) by decide))
  have H2 := Lib.hid (fun W x y (k1 : RV W x b) (k0 : RV W y a) => r11_Minus b a x y W k1 k0 (zb.mono (by decide)) (za.mono (by decide)))
  have H3 := Lib.hid (fun W x y (k1 : RV W x c) (k0 : RV W y a) => r11_Minus c a x y W k1 k0 (zc.mono (by decide)) (za.mono (by decide)))
  have H4 := Lib.hid (fun W x y (k1 : RV W x (subV b a)) (k0 : RV W y (subV c a)) => r11_Outer (subV b a) (subV c a) x y W k1 k0 (zd.mono (by decide)) (ze.mono (by decide)))
  rw [show crossV (subV b a) (subV c a) = nrm a b c from rfl] at H4
  have H5 := Lib.hid (fun W x (k0 : RV W x (nrm a b c)) => r11_Zero (nrm a b c) x W k0)
  have H6 := Lib.hid (fun W x (k0 : RV W x (nrm a b c)) => r11_To (nrm a b c) x W k0 (zn.mono (by decide)))
  have H7 := Lib.hid (fun W x y (k0 : RV W x (nrm a b c)) (k1 : RV W y a) => r11_Inner (nrm a b c) a x y W k0 k1 (zn.mono (by decide)) (za.mono (by decide)))
  have H8 := Lib.hid (fun W p d (k0 : RQ W p d (dotI (nrm a b c) a)) => r3_To (dotI (nrm a b c) a) p d W k0 (zq.mono (by decide)))
  clear za zb zc zd ze zn zq
  unfold tres tcode pV
  unfold vV at *
  generalize zero3 (nrm a b c) = z at *
  generalize dotI (nrm a b c) a = q at *
  generalize nrm a b c = n at *
  generalize subV b a = g at *
  generalize subV c a = h at *
  generalize rs n.x = n0 at *
  generalize rs n.y = n1 at *
  generalize rs n.z = n2 at *
  generalize rs q = q1 at *
  generalize sgB a.x.num = ax_ at *
  generalize sgB a.y.num = ay_ at *
  generalize sgB a.z.num = az_ at *
  generalize sgB b.x.num = bx_ at *
  generalize sgB b.y.num = by_ at *
  generalize sgB b.z.num = bz_ at *
  generalize sgB c.x.num = cx_ at *
  generalize sgB c.y.num = cy_ at *
  generalize sgB c.z.num = cz_ at *
  generalize sgB n.x.num = nx_ at *
  generalize sgB n.y.num = ny_ at *
  generalize sgB n.z.num = nz_ at *
  generalize sgB g.x.num = gx_ at *
  generalize sgB g.y.num = gy_ at *
  generalize sgB g.z.num = gz_ at *
  generalize sgB h.x.num = hx_ at *
  generalize sgB h.y.num = hy_ at *
  generalize sgB h.z.num = hz_ at *
  generalize sgB q.num = q0_ at *
  cases k <;> cases j
  · simp only [Bool.and_self, Bool.false_and, Bool.false_eq_true, if_false] at *
    go_enter Tryz.func37, Tryz.ntmps37
    go_wp2_with fail
    generalize hW : (((World.alloc w _).alloc _).alloc _).alloc _ = W
    obtain ⟨hB, hsz, R3, R4, R5, R6⟩ := A4 hW
    have R3 := Lib.hid R3
    have R4 := Lib.hid R4
    have R5 := Lib.hid R5
    have R6 := Lib.hid R6
    clear hW hsz
    obtain ⟨R3c0, R3c1, R3c2, R3f0, R3f1, R3f2⟩ := row3 R3.out
    obtain ⟨R4c0, R4c1, R4c2, R4f0, R4f1, R4f2⟩ := row3 R4.out
    go_wp2_with fail
    clear R3c0 R3c1 R3c2 R3f0 R3f1 R3f2
    clear R4c0 R4c1 R4c2 R4f0 R4f1 R4f2
    refine (H0.out _).mono ?_
    rintro e w1 ⟨u, v, rfl, h0, h1, hb⟩
    replace hB := bstep hB hb
    have R5 := Lib.hid (keep hb R5.out)
    have R6 := Lib.hid (keep hb R6.out)
    have K0 := Lib.hid h0
    clear h0
    have K1 := Lib.hid h1
    clear h1
    clear hb
    have N8 := Lib.hid (show w1.heap.size ≠ w.heap.size + 3 by have := lt_of_row R6.out; omega)
    go_upto_region 2 with fail
    generalize hW : (World.alloc _ _).alloc _ = V
    obtain ⟨hb, hsz, R8, R9⟩ := A2 hW
    replace hB := bstep hB hb
    have R5 := Lib.hid (keep hb R5.out)
    have R6 := Lib.hid (keep hb R6.out)
    have K0 := Lib.hid (K0.out.below hb)
    have K1 := Lib.hid (K1.out.below hb)
    clear hb
    have R8 := Lib.hid R8
    have R9 := Lib.hid R9
    clear hW hsz
    obtain ⟨R5c0, R5c1, R5c2, R5f0, R5f1, R5f2⟩ := row3 R5.out
    go_wp2_with fail
    clear R5c0 R5c1 R5c2 R5f0 R5f1 R5f2
    refine (H1.out _).mono ?_
    rintro e w2 ⟨y, rfl, h2, hb⟩
    replace hB := bstep hB hb
    have R6 := Lib.hid (keep hb R6.out)
    have R8 := Lib.hid (keep hb R8.out)
    have R9 := Lib.hid (keep hb R9.out)
    have K0 := Lib.hid (K0.out.below hb)
    have K1 := Lib.hid (K1.out.below hb)
    have K2 := Lib.hid h2
    clear h2
    clear hb
    go_upto_region 3 with fail
    generalize hW : World.alloc _ _ = V2
    obtain ⟨hb, hsz, R11⟩ := A1 hW
    replace hB := bstep hB hb
    have R6 := Lib.hid (keep hb R6.out)
    have R8 := Lib.hid (keep hb R8.out)
    have R9 := Lib.hid (keep hb R9.out)
    have K0 := Lib.hid (K0.out.below hb)
    have K1 := Lib.hid (K1.out.below hb)
    have K2 := Lib.hid (K2.out.below hb)
    clear hb
    have R11 := Lib.hid R11
    clear hW hsz
    obtain ⟨r0, r1, r2, r3, r4, r5, r6, r7⟩ := row4 R6.out
    go_wp2_with fail
    exact bodyPost_ret (res_ct rfl plane_row rfl (store4 R6.out _ _ _ _) rfl) rfl ⟨rfl, store4_below hB (by omega) _ _ _ _⟩
  · simp only [Bool.false_and, Bool.false_eq_true, if_false] at *
    go_enter Tryz.func37, Tryz.ntmps37
    go_wp2_with fail
    generalize hW : (((World.alloc w _).alloc _).alloc _).alloc _ = W
    obtain ⟨hB, hsz, R3, R4, R5, R6⟩ := A4 hW
    have R3 := Lib.hid R3
    have R4 := Lib.hid R4
    have R5 := Lib.hid R5
    have R6 := Lib.hid R6
    clear hW hsz
    obtain ⟨R3c0, R3c1, R3c2, R3f0, R3f1, R3f2⟩ := row3 R3.out
    obtain ⟨R4c0, R4c1, R4c2, R4f0, R4f1, R4f2⟩ := row3 R4.out
    go_wp2_with fail
    clear R3c0 R3c1 R3c2 R3f0 R3f1 R3f2
    clear R4c0 R4c1 R4c2 R4f0 R4f1 R4f2
    refine (H0.out _).mono ?_
    rintro e w1 ⟨u, v, rfl, h0, h1, hb⟩
    replace hB := bstep hB hb
    have R5 := Lib.hid (keep hb R5.out)
    have R6 := Lib.hid (keep hb R6.out)
    have K0 := Lib.hid h0
    clear h0
    have K1 := Lib.hid h1
    clear h1
    clear hb
    have N8 := Lib.hid (show w1.heap.size ≠ w.heap.size + 3 by have := lt_of_row R6.out; omega)
    go_upto_region 2 with fail
    generalize hW : (World.alloc _ _).alloc _ = V
    obtain ⟨hb, hsz, R8, R9⟩ := A2 hW
    replace hB := bstep hB hb
    have R5 := Lib.hid (keep hb R5.out)
    have R6 := Lib.hid (keep hb R6.out)
    have K0 := Lib.hid (K0.out.below hb)
    have K1 := Lib.hid (K1.out.below hb)
    clear hb
    have R8 := Lib.hid R8
    have R9 := Lib.hid R9
    clear hW hsz
    obtain ⟨R5c0, R5c1, R5c2, R5f0, R5f1, R5f2⟩ := row3 R5.out
    go_wp2_with fail
    clear R5c0 R5c1 R5c2 R5f0 R5f1 R5f2
    refine (H1.out _).mono ?_
    rintro e w2 ⟨y, rfl, h2, hb⟩
    replace hB := bstep hB hb
    have R6 := Lib.hid (keep hb R6.out)
    have R8 := Lib.hid (keep hb R8.out)
    have R9 := Lib.hid (keep hb R9.out)
    have K0 := Lib.hid (K0.out.below hb)
    have K1 := Lib.hid (K1.out.below hb)
    have K2 := Lib.hid h2
    clear h2
    clear hb
    go_upto_region 3 with fail
    generalize hW : World.alloc _ _ = V2
    obtain ⟨hb, hsz, R11⟩ := A1 hW
    replace hB := bstep hB hb
    have R6 := Lib.hid (keep hb R6.out)
    have R8 := Lib.hid (keep hb R8.out)
    have R9 := Lib.hid (keep hb R9.out)
    have K0 := Lib.hid (K0.out.below hb)
    have K1 := Lib.hid (K1.out.below hb)
    have K2 := Lib.hid (K2.out.below hb)
    clear hb
    have R11 := Lib.hid R11
    clear hW hsz
    obtain ⟨r0, r1, r2, r3, r4, r5, r6, r7⟩ := row4 R6.out
    go_wp2_with fail
    exact bodyPost_ret (res_ct rfl plane_row rfl (store4 R6.out _ _ _ _) rfl) rfl ⟨rfl, store4_below hB (by omega) _ _ _ _⟩
  · simp only [Bool.false_and, Bool.and_false, Bool.false_eq_true, if_false] at *
    go_enter Tryz.func37, Tryz.ntmps37
    go_wp2_with fail
    generalize hW : (((World.alloc w _).alloc _).alloc _).alloc _ = W
    obtain ⟨hB, hsz, R3, R4, R5, R6⟩ := A4 hW
    have R3 := Lib.hid R3
    have R4 := Lib.hid R4
    have R5 := Lib.hid R5
    have R6 := Lib.hid R6
    clear hW hsz
    obtain ⟨R3c0, R3c1, R3c2, R3f0, R3f1, R3f2⟩ := row3 R3.out
    obtain ⟨R4c0, R4c1, R4c2, R4f0, R4f1, R4f2⟩ := row3 R4.out
    go_wp2_with fail
    clear R3c0 R3c1 R3c2 R3f0 R3f1 R3f2
    clear R4c0 R4c1 R4c2 R4f0 R4f1 R4f2
    refine (H0.out _).mono ?_
    rintro e w1 ⟨u, v, rfl, h0, h1, hb⟩
    replace hB := bstep hB hb
    have R5 := Lib.hid (keep hb R5.out)
    have R6 := Lib.hid (keep hb R6.out)
    have K0 := Lib.hid h0
    clear h0
    have K1 := Lib.hid h1
    clear h1
    clear hb
    have N8 := Lib.hid (show w1.heap.size ≠ w.heap.size + 3 by have := lt_of_row R6.out; omega)
    go_upto_region 2 with fail
    generalize hW : (World.alloc _ _).alloc _ = V
    obtain ⟨hb, hsz, R8, R9⟩ := A2 hW
    replace hB := bstep hB hb
    have R5 := Lib.hid (keep hb R5.out)
    have R6 := Lib.hid (keep hb R6.out)
    have K0 := Lib.hid (K0.out.below hb)
    have K1 := Lib.hid (K1.out.below hb)
    clear hb
    have R8 := Lib.hid R8
    have R9 := Lib.hid R9
    clear hW hsz
    obtain ⟨R5c0, R5c1, R5c2, R5f0, R5f1, R5f2⟩ := row3 R5.out
    go_wp2_with fail
    clear R5c0 R5c1 R5c2 R5f0 R5f1 R5f2
    refine (H1.out _).mono ?_
    rintro e w2 ⟨y, rfl, h2, hb⟩
    replace hB := bstep hB hb
    have R6 := Lib.hid (keep hb R6.out)
    have R8 := Lib.hid (keep hb R8.out)
    have R9 := Lib.hid (keep hb R9.out)
    have K0 := Lib.hid (K0.out.below hb)
    have K1 := Lib.hid (K1.out.below hb)
    have K2 := Lib.hid h2
    clear h2
    clear hb
    go_upto_region 3 with fail
    generalize hW : World.alloc _ _ = V2
    obtain ⟨hb, hsz, R11⟩ := A1 hW
    replace hB := bstep hB hb
    have R6 := Lib.hid (keep hb R6.out)
    have R8 := Lib.hid (keep hb R8.out)
    have R9 := Lib.hid (keep hb R9.out)
    have K0 := Lib.hid (K0.out.below hb)
    have K1 := Lib.hid (K1.out.below hb)
    have K2 := Lib.hid (K2.out.below hb)
    clear hb
    have R11 := Lib.hid R11
    clear hW hsz
    obtain ⟨r0, r1, r2, r3, r4, r5, r6, r7⟩ := row4 R6.out
    go_wp2_with fail
    exact bodyPost_ret (res_ct rfl plane_row rfl (store4 R6.out _ _ _ _) rfl) rfl ⟨rfl, store4_below hB (by omega) _ _ _ _⟩
  · simp only [Bool.and_self, Bool.true_and, if_true] at *
    go_enter Tryz.func37, Tryz.ntmps37
    go_wp2_with fail
    generalize hW : (((World.alloc w _).alloc _).alloc _).alloc _ = W
    obtain ⟨hB, hsz, R3, R4, R5, R6⟩ := A4 hW
    have R3 := Lib.hid R3
    have R4 := Lib.hid R4
    have R5 := Lib.hid R5
    have R6 := Lib.hid R6
    clear hW hsz
    obtain ⟨R3c0, R3c1, R3c2, R3f0, R3f1, R3f2⟩ := row3 R3.out
    obtain ⟨R4c0, R4c1, R4c2, R4f0, R4f1, R4f2⟩ := row3 R4.out
    go_wp2_with fail
    clear R3c0 R3c1 R3c2 R3f0 R3f1 R3f2
    clear R4c0 R4c1 R4c2 R4f0 R4f1 R4f2
    refine (H0.out _).mono ?_
    rintro e w1 ⟨u, v, rfl, h0, h1, hb⟩
    replace hB := bstep hB hb
    have R5 := Lib.hid (keep hb R5.out)
    have R6 := Lib.hid (keep hb R6.out)
    have K0 := Lib.hid h0
    clear h0
    have K1 := Lib.hid h1
    clear h1
    clear hb
    have N8 := Lib.hid (show w1.heap.size ≠ w.heap.size + 3 by have := lt_of_row R6.out; omega)
    go_upto_region 2 with fail
    generalize hW : (World.alloc _ _).alloc _ = V
    obtain ⟨hb, hsz, R8, R9⟩ := A2 hW
    replace hB := bstep hB hb
    have R5 := Lib.hid (keep hb R5.out)
    have R6 := Lib.hid (keep hb R6.out)
    have K0 := Lib.hid (K0.out.below hb)
    have K1 := Lib.hid (K1.out.below hb)
    clear hb
    have R8 := Lib.hid R8
    have R9 := Lib.hid R9
    clear hW hsz
    obtain ⟨R5c0, R5c1, R5c2, R5f0, R5f1, R5f2⟩ := row3 R5.out
    go_wp2_with fail
    clear R5c0 R5c1 R5c2 R5f0 R5f1 R5f2
    refine (H1.out _).mono ?_
    rintro e w2 ⟨y, rfl, h2, hb⟩
    replace hB := bstep hB hb
    have R6 := Lib.hid (keep hb R6.out)
    have R8 := Lib.hid (keep hb R8.out)
    have R9 := Lib.hid (keep hb R9.out)
    have K0 := Lib.hid (K0.out.below hb)
    have K1 := Lib.hid (K1.out.below hb)
    have K2 := Lib.hid h2
    clear h2
    clear hb
    go_upto_region 3 with fail
    generalize hW : World.alloc _ _ = V2
    obtain ⟨hb, hsz, R11⟩ := A1 hW
    replace hB := bstep hB hb
    have R6 := Lib.hid (keep hb R6.out)
    have R8 := Lib.hid (keep hb R8.out)
    have R9 := Lib.hid (keep hb R9.out)
    have K0 := Lib.hid (K0.out.below hb)
    have K1 := Lib.hid (K1.out.below hb)
    have K2 := Lib.hid (K2.out.below hb)
    clear hb
    have R11 := Lib.hid R11
    clear hW hsz
    go_wp2_with fail
    go_cut [13] (fun x wc => ∃ (i : Nat) (m : VS), x = .pointer (some ⟨i, 0, none⟩) ∧ Hid (wc.heap[i]? = some (.cells #[.bool nx_, .slice m.x.p.A m.x.p.n m.x.p.c, .slice m.x.d.A m.x.d.n m.x.d.c, .bool ny_, .slice m.y.p.A m.y.p.n m.y.p.c, .slice m.y.d.A m.y.d.n m.y.d.c, .bool nz_, .slice m.z.p.A m.z.p.n m.z.p.c, .slice m.z.d.A m.z.d.n m.z.d.c] 104 (0, 0))) ∧ Hid (RV wc m n) ∧ Hid (Below V2.heap.size V2 wc))
    case first =>
      have LR8 := fun (w' : World) (h : Ap V2.heap.size V2.heap.size V2 w') => rowc9 (h.rowV R8.out)
      have LR9 := fun (w' : World) (h : Ap V2.heap.size V2.heap.size V2 w') => rowc9 (h.rowV R9.out)
      have LR11 := fun (w' : World) (h : Ap V2.heap.size V2.heap.size V2 w') => rowc9 (h.rowV R11.out)
      have hvr := Below.refl V2.heap.size V2
      have hv0 := hvr.drew
      first
      | go_region_held3 (fun w' => Ap V2.heap.size V2.heap.size V2 w') (first | (with_reducible assumption) | (with_reducible exact Ap.refl _ _ _) | ((repeat (first | with_reducible assumption | with_reducible exact Ap.refl _ _ _ | with_reducible refine Ap.drew ?_ | with_reducible refine Ap.alloc ?_ | with_reducible refine Ap.set1 ?_ | with_reducible refine Ap.set2 ?_ | with_reducible refine Ap.setN (by first | with_reducible assumption | with_reducible exact Nat.le_refl _ | with_reducible exact Nat.le_add_right _ _ | with_reducible exact Nat.le_trans (by assumption) (Nat.le_add_right _ _)) ?_)); done))
          (first
            | (go_at_call 77; (with_reducible refine (H2.out _  v u (by first | with_reducible exact K1.out | with_reducible exact K1.out.drewR | with_reducible exact (K1.out.below (A1 rfl).1) | with_reducible exact (K1.out.below (A1 rfl).1).drewR) (by first | with_reducible exact K0.out | with_reducible exact K0.out.drewR | with_reducible exact (K0.out.below (A1 rfl).1) | with_reducible exact (K0.out.below (A1 rfl).1).drewR)).mono ?_); rintro e wq0 ⟨u_0, rfl, hk_0, hb⟩; have hv1 : Below V2.heap.size V2 wq0 := (by first | with_reducible exact bstep (hv0) hb | with_reducible exact bstep (bstep hv0 (A1 rfl).1) hb | with_reducible exact bstep ((bstep hv0 (A1 rfl).1).drew) hb | with_reducible exact bstep ((bstep hvr (A1 rfl).1).drew) hb); have hs1 := Ap.of_below (g := V2.heap.size) (h := V2.heap.size) hv1; have sz1 := hv1.size; have K0 := Lib.hid (by first | with_reducible exact K0.out.below hb | with_reducible exact K0.out.drewR.below hb | with_reducible exact (K0.out.below (A1 rfl).1).below hb | with_reducible exact (K0.out.below (A1 rfl).1).drewR.below hb); have K1 := Lib.hid (by first | with_reducible exact K1.out.below hb | with_reducible exact K1.out.drewR.below hb | with_reducible exact (K1.out.below (A1 rfl).1).below hb | with_reducible exact (K1.out.below (A1 rfl).1).drewR.below hb); have K2 := Lib.hid (by first | with_reducible exact K2.out.below hb | with_reducible exact K2.out.drewR.below hb | with_reducible exact (K2.out.below (A1 rfl).1).below hb | with_reducible exact (K2.out.below (A1 rfl).1).drewR.below hb); (first | (have RN0 : RowKit.Hid (wq0.heap[V2.heap.size]? = some (.cells #[.bool false, .slice none 0 0, .slice none 0 0, .bool false, .slice none 0 0, .slice none 0 0, .bool false, .slice none 0 0, .slice none 0 0] 104 (0, 0))) := Lib.hid (by first | exact one_new hb | exact one_newD hb)) | skip); (first | (have RNg := lt_of_row RN0.out; have RNh := Nat.ne_of_lt RNg; have RNi := Nat.ne_of_gt RNg) | skip); have L0 := Lib.hid hk_0; clear hk_0; clear hb)
            | (go_at_call 77; (with_reducible refine (H3.out _  y u (by first | with_reducible exact K2.out | with_reducible exact K2.out.drewR | with_reducible exact (K2.out.below (A1 rfl).1) | with_reducible exact (K2.out.below (A1 rfl).1).drewR) (by first | with_reducible exact K0.out | with_reducible exact K0.out.drewR | with_reducible exact (K0.out.below (A1 rfl).1) | with_reducible exact (K0.out.below (A1 rfl).1).drewR)).mono ?_); rintro e wq1 ⟨u_1, rfl, hk_1, hb⟩; have hv2 : Below V2.heap.size V2 wq1 := (by first | with_reducible exact bstep (hv1) hb | with_reducible exact bstep (bstep hv1 (A1 rfl).1) hb | with_reducible exact bstep ((bstep hv1 (A1 rfl).1).drew) hb | with_reducible exact bstep ((bstep hvr (A1 rfl).1).drew) hb); have hs2 := Ap.of_below (g := V2.heap.size) (h := V2.heap.size) hv2; have sz2 := hv2.size; have K0 := Lib.hid (by first | with_reducible exact K0.out.below hb | with_reducible exact K0.out.drewR.below hb | with_reducible exact (K0.out.below (A1 rfl).1).below hb | with_reducible exact (K0.out.below (A1 rfl).1).drewR.below hb); have K1 := Lib.hid (by first | with_reducible exact K1.out.below hb | with_reducible exact K1.out.drewR.below hb | with_reducible exact (K1.out.below (A1 rfl).1).below hb | with_reducible exact (K1.out.below (A1 rfl).1).drewR.below hb); have K2 := Lib.hid (by first | with_reducible exact K2.out.below hb | with_reducible exact K2.out.drewR.below hb | with_reducible exact (K2.out.below (A1 rfl).1).below hb | with_reducible exact (K2.out.below (A1 rfl).1).drewR.below hb); have L0 := Lib.hid (by first | with_reducible exact L0.out.below hb | with_reducible exact L0.out.drewR.below hb | with_reducible exact (L0.out.below (A1 rfl).1).below hb | with_reducible exact (L0.out.below (A1 rfl).1).drewR.below hb); (first | (with_reducible have RN0 := Lib.hid (keep hb RN0.out)) | (with_reducible have RN0 := Lib.hid (keep hb (old1 RN0.out))) | skip); (first | (have RN1 : RowKit.Hid (wq1.heap[wq0.heap.size]? = some (.cells #[.bool false, .slice none 0 0, .slice none 0 0, .bool false, .slice none 0 0, .slice none 0 0, .bool false, .slice none 0 0, .slice none 0 0] 104 (0, 0))) := Lib.hid (by first | exact one_new hb | exact one_newD hb)) | skip); (first | (have RNg := lt_of_row RN1.out; have RNh := Nat.ne_of_lt RNg; have RNi := Nat.ne_of_gt RNg) | skip); have L1 := Lib.hid hk_1; clear hk_1; clear hb)
            | (go_at_call 86; (with_reducible refine (H4.out _  u_0 u_1 (by first | with_reducible exact L0.out | with_reducible exact L0.out.drewR | with_reducible exact (L0.out.below (A1 rfl).1) | with_reducible exact (L0.out.below (A1 rfl).1).drewR) (by first | with_reducible exact L1.out | with_reducible exact L1.out.drewR | with_reducible exact (L1.out.below (A1 rfl).1) | with_reducible exact (L1.out.below (A1 rfl).1).drewR)).mono ?_); rintro e wq2 ⟨u_2, rfl, hk_2, hb⟩; have hv3 : Below V2.heap.size V2 wq2 := (by first | with_reducible exact bstep (hv2) hb | with_reducible exact bstep (bstep hv2 (A1 rfl).1) hb | with_reducible exact bstep ((bstep hv2 (A1 rfl).1).drew) hb | with_reducible exact bstep ((bstep hvr (A1 rfl).1).drew) hb); have hs3 := Ap.of_below (g := V2.heap.size) (h := V2.heap.size) hv3; have sz3 := hv3.size; have K0 := Lib.hid (by first | with_reducible exact K0.out.below hb | with_reducible exact K0.out.drewR.below hb | with_reducible exact (K0.out.below (A1 rfl).1).below hb | with_reducible exact (K0.out.below (A1 rfl).1).drewR.below hb); have K1 := Lib.hid (by first | with_reducible exact K1.out.below hb | with_reducible exact K1.out.drewR.below hb | with_reducible exact (K1.out.below (A1 rfl).1).below hb | with_reducible exact (K1.out.below (A1 rfl).1).drewR.below hb); have K2 := Lib.hid (by first | with_reducible exact K2.out.below hb | with_reducible exact K2.out.drewR.below hb | with_reducible exact (K2.out.below (A1 rfl).1).below hb | with_reducible exact (K2.out.below (A1 rfl).1).drewR.below hb); have L0 := Lib.hid (by first | with_reducible exact L0.out.below hb | with_reducible exact L0.out.drewR.below hb | with_reducible exact (L0.out.below (A1 rfl).1).below hb | with_reducible exact (L0.out.below (A1 rfl).1).drewR.below hb); have L1 := Lib.hid (by first | with_reducible exact L1.out.below hb | with_reducible exact L1.out.drewR.below hb | with_reducible exact (L1.out.below (A1 rfl).1).below hb | with_reducible exact (L1.out.below (A1 rfl).1).drewR.below hb); (first | (with_reducible have RN0 := Lib.hid (keep hb RN0.out)) | (with_reducible have RN0 := Lib.hid (keep hb (old1 RN0.out))) | skip); (first | (with_reducible have RN1 := Lib.hid (keep hb RN1.out)) | (with_reducible have RN1 := Lib.hid (keep hb (old1 RN1.out))) | skip); (first | (have RN2 : RowKit.Hid (wq2.heap[wq1.heap.size]? = some (.cells #[.bool false, .slice none 0 0, .slice none 0 0, .bool false, .slice none 0 0, .slice none 0 0, .bool false, .slice none 0 0, .slice none 0 0] 104 (0, 0))) := Lib.hid (by first | exact one_new hb | exact one_newD hb)) | skip); (first | (have RNg := lt_of_row RN2.out; have RNh := Nat.ne_of_lt RNg; have RNi := Nat.ne_of_gt RNg) | skip); have L2 := Lib.hid hk_2; clear hk_2; (first | (have RNx := row9 RN0.out; obtain ⟨RNf00, RNf01, RNf02, RNf03, RNf04, RNf05, RNf06, RNf07, RNf08, RNf09, RNf010, RNf011, RNf012, RNf013, RNf014, RNf015, RNf016, RNf017⟩ := RNx) | skip); (first | (have RNx := row9 RN1.out; obtain ⟨RNf10, RNf11, RNf12, RNf13, RNf14, RNf15, RNf16, RNf17, RNf18, RNf19, RNf110, RNf111, RNf112, RNf113, RNf114, RNf115, RNf116, RNf117⟩ := RNx) | skip); (first | (have RNx := row9 RN2.out; obtain ⟨RNf20, RNf21, RNf22, RNf23, RNf24, RNf25, RNf26, RNf27, RNf28, RNf29, RNf210, RNf211, RNf212, RNf213, RNf214, RNf215, RNf216, RNf217⟩ := RNx) | skip); clear hb))
      | fail
      all_goals
        go_wp2_with fail
        go_meet
        first
        | (have E := endN hv3 (.cells #[.bool nx_, .slice u_2.x.p.A u_2.x.p.n u_2.x.p.c, .slice u_2.x.d.A u_2.x.d.n u_2.x.d.c, .bool ny_, .slice u_2.y.p.A u_2.y.p.n u_2.y.p.c, .slice u_2.y.d.A u_2.y.d.n u_2.y.d.c, .bool nz_, .slice u_2.z.p.A u_2.z.p.n u_2.z.p.c, .slice u_2.z.d.A u_2.z.d.n u_2.z.d.c] 104 (0, 0)); with_reducible exact ⟨_, u_2, rfl, Lib.hid E.1, Lib.hid (E.2.2 _ _ L2.out), Lib.hid E.2.1⟩)
        | (have E := end9 hv3 RN0.out (by first | exact Nat.le_refl _ | assumption | exact Nat.le_add_right _ _ | exact Nat.le_trans (by assumption) (Nat.le_add_right _ _)) nx_ (.slice u_2.x.p.A u_2.x.p.n u_2.x.p.c) (.slice u_2.x.d.A u_2.x.d.n u_2.x.d.c) (.bool ny_) (.slice u_2.y.p.A u_2.y.p.n u_2.y.p.c) (.slice u_2.y.d.A u_2.y.d.n u_2.y.d.c) (.bool nz_) (.slice u_2.z.p.A u_2.z.p.n u_2.z.p.c) (.slice u_2.z.d.A u_2.z.d.n u_2.z.d.c); with_reducible exact ⟨_, u_2, rfl, Lib.hid E.1, Lib.hid (E.2.2 _ _ L2.out), Lib.hid E.2.1⟩)
        | (have E := end9 hv3 RN1.out (by first | exact Nat.le_refl _ | assumption | exact Nat.le_add_right _ _ | exact Nat.le_trans (by assumption) (Nat.le_add_right _ _)) nx_ (.slice u_2.x.p.A u_2.x.p.n u_2.x.p.c) (.slice u_2.x.d.A u_2.x.d.n u_2.x.d.c) (.bool ny_) (.slice u_2.y.p.A u_2.y.p.n u_2.y.p.c) (.slice u_2.y.d.A u_2.y.d.n u_2.y.d.c) (.bool nz_) (.slice u_2.z.p.A u_2.z.p.n u_2.z.p.c) (.slice u_2.z.d.A u_2.z.d.n u_2.z.d.c); with_reducible exact ⟨_, u_2, rfl, Lib.hid E.1, Lib.hid (E.2.2 _ _ L2.out), Lib.hid E.2.1⟩)
        | (have E := end9 hv3 RN2.out (by first | exact Nat.le_refl _ | assumption | exact Nat.le_add_right _ _ | exact Nat.le_trans (by assumption) (Nat.le_add_right _ _)) nx_ (.slice u_2.x.p.A u_2.x.p.n u_2.x.p.c) (.slice u_2.x.d.A u_2.x.d.n u_2.x.d.c) (.bool ny_) (.slice u_2.y.p.A u_2.y.p.n u_2.y.p.c) (.slice u_2.y.d.A u_2.y.d.n u_2.y.d.c) (.bool nz_) (.slice u_2.z.p.A u_2.z.p.n u_2.z.p.c) (.slice u_2.z.d.A u_2.z.d.n u_2.z.d.c); with_reducible exact ⟨_, u_2, rfl, Lib.hid E.1, Lib.hid (E.2.2 _ _ L2.out), Lib.hid E.2.1⟩)
    case rest =>
      obtain ⟨i, m, rfl, Ri, KN, hbw⟩ := hcut
      have hb := hbw.out
      have R6 := Lib.hid (keep hb R6.out)
      have R8 := Lib.hid (keep hb R8.out)
      have K0 := Lib.hid (K0.out.below hb)
      replace hB := bstep hB hb
      clear hb hbw R9 R11
      obtain ⟨qRi_0, qRi_1, qRi_2, qRi_3, qRi_4, qRi_5, qRi_6, qRi_7, qRi_8⟩ := rowc9 Ri.out
      go_wp2_with fail
      clear qRi_0 qRi_1 qRi_2 qRi_3 qRi_4 qRi_5 qRi_6 qRi_7 qRi_8
      refine (H5.out _ _ KN.out).mono ?_
      rintro e w5 ⟨rfl, hb⟩
      replace hB := bstep hB hb
      have R6 := Lib.hid (keep hb R6.out)
      have R8 := Lib.hid (keep hb R8.out)
      have Ri := Lib.hid (keep hb Ri.out)
      have K0 := Lib.hid (K0.out.below hb)
      have KN := Lib.hid (KN.out.below hb)
      clear hb
      cases z
      · have Mi := Lib.hid (show i ≠ w.heap.size + 3 by intro e; have h1 := Ri.out; have h2 := R6.out; rw [e, h2] at h1; simp at h1)
        have n8 := lt_of_row R8.out
        have M8 : Hid (w1.heap.size ≠ w.heap.size + 3) := N8
        go_wp2_with fail
        have LR8 := fun (w' : World) (h : Ap (w.heap.size + 3) (w.heap.size + 3) w5 w') => rowc9 (h.row R8.out M8.out M8.out)
        have LRi := fun (w' : World) (h : Ap (w.heap.size + 3) (w.heap.size + 3) w5 w') => rowc9 (h.row Ri.out Mi.out Mi.out)
        have hvr := Below.refl w5.heap.size w5
        have hv0 := hvr.drew
        first
        | go_region_held3 (fun w' => Ap (w.heap.size + 3) (w.heap.size + 3) w5 w') (first | (with_reducible assumption) | (with_reducible exact Ap.refl _ _ _) | ((repeat (first | with_reducible assumption | with_reducible exact Ap.refl _ _ _ | with_reducible refine Ap.drew ?_ | with_reducible refine Ap.alloc ?_ | with_reducible refine Ap.set1 ?_ | with_reducible refine Ap.set2 ?_ | with_reducible refine Ap.setN (by first | with_reducible assumption | with_reducible exact Nat.le_refl _ | with_reducible exact Nat.le_add_right _ _ | with_reducible exact Nat.le_trans (by assumption) (Nat.le_add_right _ _)) ?_)); done))
            (first
              | (go_at_call 73; (with_reducible refine (H6.out _  m (by first | with_reducible exact KN.out | with_reducible exact KN.out.drewR)).mono ?_); rintro e wq0 ⟨rfl, hb⟩; have hv1 : Below w5.heap.size w5 wq0 := (by first | with_reducible exact bstep (hv0) hb); have hs1 := Ap.of_below (g := w.heap.size + 3) (h := w.heap.size + 3) hv1; have sz1 := hv1.size; have KN := Lib.hid (by first | with_reducible exact KN.out.below hb | with_reducible exact KN.out.drewR.below hb); have K0 := Lib.hid (by first | with_reducible exact K0.out.below hb | with_reducible exact K0.out.drewR.below hb); clear hb)
              | (go_at_call 84; (with_reducible refine (H7.out _  m u (by first | with_reducible exact KN.out | with_reducible exact KN.out.drewR) (by first | with_reducible exact K0.out | with_reducible exact K0.out.drewR)).mono ?_); rintro e wq1 ⟨p_1, d_1, rfl, hk_1, hb⟩; have hv2 : Below w5.heap.size w5 wq1 := (by first | with_reducible exact bstep (hv1) hb); have hs2 := Ap.of_below (g := w.heap.size + 3) (h := w.heap.size + 3) hv2; have sz2 := hv2.size; have KN := Lib.hid (by first | with_reducible exact KN.out.below hb | with_reducible exact KN.out.drewR.below hb); have K0 := Lib.hid (by first | with_reducible exact K0.out.below hb | with_reducible exact K0.out.drewR.below hb); have L1 := Lib.hid hk_1; clear hk_1; clear hb)
              | (go_at_call 44; (with_reducible refine (H8.out _  p_1 d_1 (by first | with_reducible exact L1.out | with_reducible exact L1.out.drewR)).mono ?_); rintro e wq2 ⟨rfl, hb⟩; have hv3 : Below w5.heap.size w5 wq2 := (by first | with_reducible exact bstep (hv2) hb); have hs3 := Ap.of_below (g := w.heap.size + 3) (h := w.heap.size + 3) hv3; have sz3 := hv3.size; have KN := Lib.hid (by first | with_reducible exact KN.out.below hb | with_reducible exact KN.out.drewR.below hb); have K0 := Lib.hid (by first | with_reducible exact K0.out.below hb | with_reducible exact K0.out.drewR.below hb); have L1 := Lib.hid (by first | with_reducible exact L1.out.below hb | with_reducible exact L1.out.drewR.below hb); have RoX := keep hv3 R6.out; obtain ⟨RoF0, RoF1, RoF2, RoF3, RoF4, RoF5, RoF6, RoF7⟩ := row4 RoX; clear hb))
        | fail
        all_goals
          go_wp2_with fail
          exact bodyPost_ret (res_ct rfl plane_row rfl (store4 RoX _ _ _ _) rfl) rfl ⟨rfl, store4_below (bstep hB hv3) (by omega) _ _ _ _⟩
      · obtain ⟨r0, r1, r2, r3, r4, r5, r6, r7⟩ := row4 R6.out
        go_wp2_with fail
        exact bodyPost_ret (res_ct rfl plane_row rfl (store4 R6.out _ _ _ _) rfl) rfl ⟨rfl, store4_below hB (by omega) _ _ _ _⟩
end Go.Proofs.YtgbabmkclojgeaaGreatDoor

/- The reference of layer 11: Crossing. -/
namespace Go.Proofs.YtgbabmkclojgeaaGreatDoor
open Go.RowKit Go.Shelf Go.Sort

attribute [local go_sem] Oper.semAt_some

theorem same_sgn (n : V3) (c : Rat) (a b : V3) : ((decide (0 < (hgt n c a).num.sign)) == (decide (0 < (hgt n c b).num.sign))) = sameS n c a b := by
  unfold sameS
  rw [cmp_sgn, cmp_sgn]

set_option maxRecDepth 100000 in
set_option maxHeartbeats 16000000 in
theorem r11_Crossing (s : ByteArray × ByteArray × ByteArray) (q : ByteArray) (t u : ByteArray × ByteArray × ByteArray) (w : World) (hs : Sh20 s) (hq : q.size ≤ 20) (ht : Sh20 t) (hu : Sh20 u) :
    Calls Tryz.prog 39 #[tpW s q, txW t, txW u] w fun e w' => e = .returned (.tuple #[cres (pokB s q && (vvB t && vvB u)) (sameS (vvX s) (rvX q) (vvX t) (vvX u)) (crs (vvX s) (rvX q) (vvX t) (vvX u)), .int .i64 (ccode (pokB s q && (vvB t && vvB u)) (sameS (vvX s) (rvX q) (vvX t) (vvX u)))]) ∧ Below w.heap.size w w' := by
  have zn := szV_text hs
  have zc : Sz 21 (rvX q) := sz_rvX hq (by decide)
  have za := szV_text ht
  have zb := szV_text hu
  have H0 := Lib.hid (fun W => r11_ReadPlane s q W (sh20_6 hs) (Nat.le_trans hq (by decide)))
  have H1 := Lib.hid (fun W => r11_both t u W (sh20_6 ht) (sh20_6 hu))
  unfold txW tpW at *
  generalize vvX s = n at *
  generalize rvX q = c at *
  generalize vvX t = a at *
  generalize vvX u = b at *
  generalize pokB s q = k at *
  generalize (vvB t && vvB u) = j at *
  obtain ⟨s0, s1, s2⟩ := s
  obtain ⟨t0, t1, t2⟩ := t
  obtain ⟨u0, u1, u2⟩ := u
  simp only at *
  clear hs hq ht hu
  have HS := same_sgn n c a b
  have H2 := Lib.hid (fun W m p d x (k0 : RV W m n) (k1 : RQ W p d c) (k2 : RV W x a) => r11_Height n c a m p d x W k0 k1 k2 (zn.mono (by decide)) (zc.mono (by decide)) (za.mono (by decide)))
  have H3 := Lib.hid (fun W p d (k0 : RQ W p d (hgt n c a)) => r3_Sign (hgt n c a) p d W k0)
  have H4 := Lib.hid (fun W m p d x (k0 : RV W m n) (k1 : RQ W p d c) (k2 : RV W x b) => r11_Height n c b m p d x W k0 k1 k2 (zn.mono (by decide)) (zc.mono (by decide)) (zb.mono (by decide)))
  have H5 := Lib.hid (fun W p d (k0 : RQ W p d (hgt n c b)) => r3_Sign (hgt n c b) p d W k0)
  have H6 := Lib.hid (fun (hz : sameS n c a b = false) W m p d x y (k0 : RV W m n) (k1 : RQ W p d c) (k2 : RV W x a) (k3 : RV W y b) => r11_Cut n c a b m p d x y W k0 k1 k2 k3 zn zc za zb (same_ne hz))
  have H7 := Lib.hid (fun (hz : sameS n c a b = false) W m (k0 : RV W m (crs n c a b)) => r11_To (crs n c a b) m W k0
    (((szV_add (za.mono (show 21 ≤ 12000 by decide)) ((szV_scale (szV_sub zb za) (sz_div (sz_hgt zn zc za) (sz_sub (sz_hgt zn zc za) (sz_hgt zn zc zb)) (same_ne hz))).mono (show _ ≤ 12000 by decide))).mono (by decide) : SzV 40000000 (crs n c a b))))
  clear zn zc za zb
  unfold cres ccode
  unfold vV at *
  generalize sameS n c a b = z at *
  generalize crs n c a b = r at *
  generalize hgt n c a = g at *
  generalize hgt n c b = h at *
  generalize g.num.sign = i1 at *
  generalize h.num.sign = i2 at *
  generalize rs r.x = r0 at *
  generalize rs r.y = r1 at *
  generalize rs r.z = r2 at *
  generalize sgB n.x.num = nx_ at *
  generalize sgB n.y.num = ny_ at *
  generalize sgB n.z.num = nz_ at *
  generalize sgB a.x.num = ax_ at *
  generalize sgB a.y.num = ay_ at *
  generalize sgB a.z.num = az_ at *
  generalize sgB b.x.num = bx_ at *
  generalize sgB b.y.num = by_ at *
  generalize sgB b.z.num = bz_ at *
  generalize sgB r.x.num = rx_ at *
  generalize sgB r.y.num = ry_ at *
  generalize sgB r.z.num = rz_ at *
  generalize sgB c.num = c0_ at *
  generalize sgB g.num = g0_ at *
  generalize sgB h.num = h0_ at *
  cases k <;> cases j
  · clear HS
    simp only [Bool.and_self, Bool.false_and, Bool.false_eq_true, if_false] at *
    go_enter Tryz.func39, Tryz.ntmps39
    go_wp2_with fail
    generalize hW : (((World.alloc w _).alloc _).alloc _).alloc _ = W
    obtain ⟨hB, hsz, R3, R4, R5, R6⟩ := A4 hW
    have R3 := Lib.hid R3
    have R4 := Lib.hid R4
    have R5 := Lib.hid R5
    have R6 := Lib.hid R6
    clear hW hsz
    refine (H0.out _).mono ?_
    rintro e w1 ⟨m, p, d, rfl, h0, h1, hb⟩
    replace hB := bstep hB hb
    have R4 := Lib.hid (keep hb R4.out)
    have R5 := Lib.hid (keep hb R5.out)
    have R6 := Lib.hid (keep hb R6.out)
    have K0 := Lib.hid h0
    clear h0
    have K1 := Lib.hid h1
    clear h1
    clear hb
    go_upto_region 2 with fail
    generalize hW : World.alloc _ _ = V
    obtain ⟨hb, hsz, R8⟩ := A1 hW
    replace hB := bstep hB hb
    have R4 := Lib.hid (keep hb R4.out)
    have R5 := Lib.hid (keep hb R5.out)
    have R6 := Lib.hid (keep hb R6.out)
    have K0 := Lib.hid (K0.out.below hb)
    have K1 := Lib.hid (K1.out.below hb)
    clear hb
    have R8 := Lib.hid R8
    clear hW hsz
    obtain ⟨R4c0, R4c1, R4c2, R4f0, R4f1, R4f2⟩ := row3 R4.out
    obtain ⟨R5c0, R5c1, R5c2, R5f0, R5f1, R5f2⟩ := row3 R5.out
    go_wp2_with fail
    clear R4c0 R4c1 R4c2 R4f0 R4f1 R4f2
    clear R5c0 R5c1 R5c2 R5f0 R5f1 R5f2
    refine (H1.out _).mono ?_
    rintro e w2 ⟨x, y, rfl, h2, h3, hb⟩
    replace hB := bstep hB hb
    have R6 := Lib.hid (keep hb R6.out)
    have R8 := Lib.hid (keep hb R8.out)
    have K0 := Lib.hid (K0.out.below hb)
    have K1 := Lib.hid (K1.out.below hb)
    have K2 := Lib.hid h2
    clear h2
    have K3 := Lib.hid h3
    clear h3
    clear hb
    go_upto_region 3 with fail
    generalize hW : (World.alloc _ _).alloc _ = V2
    obtain ⟨hb, hsz, R10, R11⟩ := A2 hW
    replace hB := bstep hB hb
    have R6 := Lib.hid (keep hb R6.out)
    have R8 := Lib.hid (keep hb R8.out)
    have K0 := Lib.hid (K0.out.below hb)
    have K1 := Lib.hid (K1.out.below hb)
    have K2 := Lib.hid (K2.out.below hb)
    have K3 := Lib.hid (K3.out.below hb)
    clear hb
    have R10 := Lib.hid R10
    have R11 := Lib.hid R11
    clear hW hsz
    obtain ⟨R6c0, R6c1, R6c2, R6f0, R6f1, R6f2⟩ := row3 R6.out
    go_wp2_with fail
    exact bodyPost_ret (res_ct rfl vec_row rfl (store3 R6.out _ _ _) rfl) rfl ⟨rfl, store3_below hB (by omega) _ _ _⟩
  · clear HS
    simp only [Bool.false_and, Bool.false_eq_true, if_false] at *
    go_enter Tryz.func39, Tryz.ntmps39
    go_wp2_with fail
    generalize hW : (((World.alloc w _).alloc _).alloc _).alloc _ = W
    obtain ⟨hB, hsz, R3, R4, R5, R6⟩ := A4 hW
    have R3 := Lib.hid R3
    have R4 := Lib.hid R4
    have R5 := Lib.hid R5
    have R6 := Lib.hid R6
    clear hW hsz
    refine (H0.out _).mono ?_
    rintro e w1 ⟨m, p, d, rfl, h0, h1, hb⟩
    replace hB := bstep hB hb
    have R4 := Lib.hid (keep hb R4.out)
    have R5 := Lib.hid (keep hb R5.out)
    have R6 := Lib.hid (keep hb R6.out)
    have K0 := Lib.hid h0
    clear h0
    have K1 := Lib.hid h1
    clear h1
    clear hb
    go_upto_region 2 with fail
    generalize hW : World.alloc _ _ = V
    obtain ⟨hb, hsz, R8⟩ := A1 hW
    replace hB := bstep hB hb
    have R4 := Lib.hid (keep hb R4.out)
    have R5 := Lib.hid (keep hb R5.out)
    have R6 := Lib.hid (keep hb R6.out)
    have K0 := Lib.hid (K0.out.below hb)
    have K1 := Lib.hid (K1.out.below hb)
    clear hb
    have R8 := Lib.hid R8
    clear hW hsz
    obtain ⟨R4c0, R4c1, R4c2, R4f0, R4f1, R4f2⟩ := row3 R4.out
    obtain ⟨R5c0, R5c1, R5c2, R5f0, R5f1, R5f2⟩ := row3 R5.out
    go_wp2_with fail
    clear R4c0 R4c1 R4c2 R4f0 R4f1 R4f2
    clear R5c0 R5c1 R5c2 R5f0 R5f1 R5f2
    refine (H1.out _).mono ?_
    rintro e w2 ⟨x, y, rfl, h2, h3, hb⟩
    replace hB := bstep hB hb
    have R6 := Lib.hid (keep hb R6.out)
    have R8 := Lib.hid (keep hb R8.out)
    have K0 := Lib.hid (K0.out.below hb)
    have K1 := Lib.hid (K1.out.below hb)
    have K2 := Lib.hid h2
    clear h2
    have K3 := Lib.hid h3
    clear h3
    clear hb
    go_upto_region 3 with fail
    generalize hW : (World.alloc _ _).alloc _ = V2
    obtain ⟨hb, hsz, R10, R11⟩ := A2 hW
    replace hB := bstep hB hb
    have R6 := Lib.hid (keep hb R6.out)
    have R8 := Lib.hid (keep hb R8.out)
    have K0 := Lib.hid (K0.out.below hb)
    have K1 := Lib.hid (K1.out.below hb)
    have K2 := Lib.hid (K2.out.below hb)
    have K3 := Lib.hid (K3.out.below hb)
    clear hb
    have R10 := Lib.hid R10
    have R11 := Lib.hid R11
    clear hW hsz
    obtain ⟨R6c0, R6c1, R6c2, R6f0, R6f1, R6f2⟩ := row3 R6.out
    go_wp2_with fail
    exact bodyPost_ret (res_ct rfl vec_row rfl (store3 R6.out _ _ _) rfl) rfl ⟨rfl, store3_below hB (by omega) _ _ _⟩
  · clear HS
    simp only [Bool.false_and, Bool.and_false, Bool.false_eq_true, if_false] at *
    go_enter Tryz.func39, Tryz.ntmps39
    go_wp2_with fail
    generalize hW : (((World.alloc w _).alloc _).alloc _).alloc _ = W
    obtain ⟨hB, hsz, R3, R4, R5, R6⟩ := A4 hW
    have R3 := Lib.hid R3
    have R4 := Lib.hid R4
    have R5 := Lib.hid R5
    have R6 := Lib.hid R6
    clear hW hsz
    refine (H0.out _).mono ?_
    rintro e w1 ⟨m, p, d, rfl, h0, h1, hb⟩
    replace hB := bstep hB hb
    have R4 := Lib.hid (keep hb R4.out)
    have R5 := Lib.hid (keep hb R5.out)
    have R6 := Lib.hid (keep hb R6.out)
    have K0 := Lib.hid h0
    clear h0
    have K1 := Lib.hid h1
    clear h1
    clear hb
    go_upto_region 2 with fail
    generalize hW : World.alloc _ _ = V
    obtain ⟨hb, hsz, R8⟩ := A1 hW
    replace hB := bstep hB hb
    have R4 := Lib.hid (keep hb R4.out)
    have R5 := Lib.hid (keep hb R5.out)
    have R6 := Lib.hid (keep hb R6.out)
    have K0 := Lib.hid (K0.out.below hb)
    have K1 := Lib.hid (K1.out.below hb)
    clear hb
    have R8 := Lib.hid R8
    clear hW hsz
    obtain ⟨R4c0, R4c1, R4c2, R4f0, R4f1, R4f2⟩ := row3 R4.out
    obtain ⟨R5c0, R5c1, R5c2, R5f0, R5f1, R5f2⟩ := row3 R5.out
    go_wp2_with fail
    clear R4c0 R4c1 R4c2 R4f0 R4f1 R4f2
    clear R5c0 R5c1 R5c2 R5f0 R5f1 R5f2
    refine (H1.out _).mono ?_
    rintro e w2 ⟨x, y, rfl, h2, h3, hb⟩
    replace hB := bstep hB hb
    have R6 := Lib.hid (keep hb R6.out)
    have R8 := Lib.hid (keep hb R8.out)
    have K0 := Lib.hid (K0.out.below hb)
    have K1 := Lib.hid (K1.out.below hb)
    have K2 := Lib.hid h2
    clear h2
    have K3 := Lib.hid h3
    clear h3
    clear hb
    go_upto_region 3 with fail
    generalize hW : (World.alloc _ _).alloc _ = V2
    obtain ⟨hb, hsz, R10, R11⟩ := A2 hW
    replace hB := bstep hB hb
    have R6 := Lib.hid (keep hb R6.out)
    have R8 := Lib.hid (keep hb R8.out)
    have K0 := Lib.hid (K0.out.below hb)
    have K1 := Lib.hid (K1.out.below hb)
    have K2 := Lib.hid (K2.out.below hb)
    have K3 := Lib.hid (K3.out.below hb)
    clear hb
    have R10 := Lib.hid R10
    have R11 := Lib.hid R11
    clear hW hsz
    obtain ⟨R6c0, R6c1, R6c2, R6f0, R6f1, R6f2⟩ := row3 R6.out
    go_wp2_with fail
    exact bodyPost_ret (res_ct rfl vec_row rfl (store3 R6.out _ _ _) rfl) rfl ⟨rfl, store3_below hB (by omega) _ _ _⟩
  · simp only [Bool.and_self, Bool.true_and, if_true] at *
    cases z
    · have J6 := Lib.hid (H6.out rfl)
      have J7 := Lib.hid (H7.out rfl)
      clear H6 H7
      simp only [Bool.not_false, if_true, Bool.false_eq_true, if_false] at *
      go_enter Tryz.func39, Tryz.ntmps39
      go_wp2_with fail
      generalize hW : (((World.alloc w _).alloc _).alloc _).alloc _ = W
      obtain ⟨hB, hsz, R3, R4, R5, R6⟩ := A4 hW
      have R3 := Lib.hid R3
      have R4 := Lib.hid R4
      have R5 := Lib.hid R5
      have R6 := Lib.hid R6
      clear hW hsz
      refine (H0.out _).mono ?_
      rintro e w1 ⟨m, p, d, rfl, h0, h1, hb⟩
      replace hB := bstep hB hb
      have R4 := Lib.hid (keep hb R4.out)
      have R5 := Lib.hid (keep hb R5.out)
      have R6 := Lib.hid (keep hb R6.out)
      have K0 := Lib.hid h0
      clear h0
      have K1 := Lib.hid h1
      clear h1
      clear hb
      go_upto_region 2 with fail
      generalize hW : World.alloc _ _ = V
      obtain ⟨hb, hsz, R8⟩ := A1 hW
      replace hB := bstep hB hb
      have R4 := Lib.hid (keep hb R4.out)
      have R5 := Lib.hid (keep hb R5.out)
      have R6 := Lib.hid (keep hb R6.out)
      have K0 := Lib.hid (K0.out.below hb)
      have K1 := Lib.hid (K1.out.below hb)
      clear hb
      have R8 := Lib.hid R8
      clear hW hsz
      obtain ⟨R4c0, R4c1, R4c2, R4f0, R4f1, R4f2⟩ := row3 R4.out
      obtain ⟨R5c0, R5c1, R5c2, R5f0, R5f1, R5f2⟩ := row3 R5.out
      go_wp2_with fail
      clear R4c0 R4c1 R4c2 R4f0 R4f1 R4f2
      clear R5c0 R5c1 R5c2 R5f0 R5f1 R5f2
      refine (H1.out _).mono ?_
      rintro e w2 ⟨x, y, rfl, h2, h3, hb⟩
      replace hB := bstep hB hb
      have R6 := Lib.hid (keep hb R6.out)
      have R8 := Lib.hid (keep hb R8.out)
      have K0 := Lib.hid (K0.out.below hb)
      have K1 := Lib.hid (K1.out.below hb)
      have K2 := Lib.hid h2
      clear h2
      have K3 := Lib.hid h3
      clear h3
      clear hb
      go_upto_region 3 with fail
      generalize hW : (World.alloc _ _).alloc _ = V2
      obtain ⟨hb, hsz, R10, R11⟩ := A2 hW
      replace hB := bstep hB hb
      have R6 := Lib.hid (keep hb R6.out)
      have R8 := Lib.hid (keep hb R8.out)
      have K0 := Lib.hid (K0.out.below hb)
      have K1 := Lib.hid (K1.out.below hb)
      have K2 := Lib.hid (K2.out.below hb)
      have K3 := Lib.hid (K3.out.below hb)
      clear hb
      have R10 := Lib.hid R10
      have R11 := Lib.hid R11
      clear hW hsz
      go_wp2_with fail
      have LR8 := fun (w' : World) (h : Ap V2.heap.size V2.heap.size V2 w') => rowc12 (h.rowV R8.out)
      have LR10 := fun (w' : World) (h : Ap V2.heap.size V2.heap.size V2 w') => rowc9 (h.rowV R10.out)
      have LR11 := fun (w' : World) (h : Ap V2.heap.size V2.heap.size V2 w') => rowc9 (h.rowV R11.out)
      have hvr := Below.refl V2.heap.size V2
      have hv0 := hvr.drew
      first
      | go_region_held3 (fun w' => Ap V2.heap.size V2.heap.size V2 w') (first | (with_reducible assumption) | (with_reducible exact Ap.refl _ _ _) | ((repeat (first | with_reducible assumption | with_reducible exact Ap.refl _ _ _ | with_reducible refine Ap.drew ?_ | with_reducible refine Ap.alloc ?_ | with_reducible refine Ap.set1 ?_ | with_reducible refine Ap.set2 ?_ | with_reducible refine Ap.setN (by first | with_reducible assumption | with_reducible exact Nat.le_refl _ | with_reducible exact Nat.le_add_right _ _ | with_reducible exact Nat.le_trans (by assumption) (Nat.le_add_right _ _)) ?_)); done))
          (first
            | (go_at_call 94; (with_reducible refine (H2.out _  m p d x (by first | with_reducible exact K0.out | with_reducible exact K0.out.drewR) (by first | with_reducible exact K1.out | with_reducible exact K1.out.drewR) (by first | with_reducible exact K2.out | with_reducible exact K2.out.drewR)).mono ?_); rintro e wq0 ⟨p_0, d_0, rfl, hk_0, hb⟩; have hv1 : Below V2.heap.size V2 wq0 := (by first | with_reducible exact bstep (hv0) hb); have hs1 := Ap.of_below (g := V2.heap.size) (h := V2.heap.size) hv1; have sz1 := hv1.size; have K0 := Lib.hid (by first | with_reducible exact K0.out.below hb | with_reducible exact K0.out.drewR.below hb); have K1 := Lib.hid (by first | with_reducible exact K1.out.below hb | with_reducible exact K1.out.drewR.below hb); have K2 := Lib.hid (by first | with_reducible exact K2.out.below hb | with_reducible exact K2.out.drewR.below hb); have K3 := Lib.hid (by first | with_reducible exact K3.out.below hb | with_reducible exact K3.out.drewR.below hb); have L0 := Lib.hid hk_0; clear hk_0; clear hb)
            | (go_at_call 93; (with_reducible refine (H3.out _  p_0 d_0 (by first | with_reducible exact L0.out | with_reducible exact L0.out.drewR)).mono ?_); rintro e wq1 ⟨rfl, hb⟩; have hv2 : Below V2.heap.size V2 wq1 := (by first | with_reducible exact bstep (hv1) hb); have hs2 := Ap.of_below (g := V2.heap.size) (h := V2.heap.size) hv2; have sz2 := hv2.size; have K0 := Lib.hid (by first | with_reducible exact K0.out.below hb | with_reducible exact K0.out.drewR.below hb); have K1 := Lib.hid (by first | with_reducible exact K1.out.below hb | with_reducible exact K1.out.drewR.below hb); have K2 := Lib.hid (by first | with_reducible exact K2.out.below hb | with_reducible exact K2.out.drewR.below hb); have K3 := Lib.hid (by first | with_reducible exact K3.out.below hb | with_reducible exact K3.out.drewR.below hb); have L0 := Lib.hid (by first | with_reducible exact L0.out.below hb | with_reducible exact L0.out.drewR.below hb); clear hb)
            | (go_at_call 94; (with_reducible refine (H4.out _  m p d y (by first | with_reducible exact K0.out | with_reducible exact K0.out.drewR) (by first | with_reducible exact K1.out | with_reducible exact K1.out.drewR) (by first | with_reducible exact K3.out | with_reducible exact K3.out.drewR)).mono ?_); rintro e wq2 ⟨p_2, d_2, rfl, hk_2, hb⟩; have hv3 : Below V2.heap.size V2 wq2 := (by first | with_reducible exact bstep (hv2) hb); have hs3 := Ap.of_below (g := V2.heap.size) (h := V2.heap.size) hv3; have sz3 := hv3.size; have K0 := Lib.hid (by first | with_reducible exact K0.out.below hb | with_reducible exact K0.out.drewR.below hb); have K1 := Lib.hid (by first | with_reducible exact K1.out.below hb | with_reducible exact K1.out.drewR.below hb); have K2 := Lib.hid (by first | with_reducible exact K2.out.below hb | with_reducible exact K2.out.drewR.below hb); have K3 := Lib.hid (by first | with_reducible exact K3.out.below hb | with_reducible exact K3.out.drewR.below hb); have L0 := Lib.hid (by first | with_reducible exact L0.out.below hb | with_reducible exact L0.out.drewR.below hb); have L2 := Lib.hid hk_2; clear hk_2; clear hb)
            | (go_at_call 93; (with_reducible refine (H5.out _  p_2 d_2 (by first | with_reducible exact L2.out | with_reducible exact L2.out.drewR)).mono ?_); rintro e wq3 ⟨rfl, hb⟩; have hv4 : Below V2.heap.size V2 wq3 := (by first | with_reducible exact bstep (hv3) hb); have hs4 := Ap.of_below (g := V2.heap.size) (h := V2.heap.size) hv4; have sz4 := hv4.size; have K0 := Lib.hid (by first | with_reducible exact K0.out.below hb | with_reducible exact K0.out.drewR.below hb); have K1 := Lib.hid (by first | with_reducible exact K1.out.below hb | with_reducible exact K1.out.drewR.below hb); have K2 := Lib.hid (by first | with_reducible exact K2.out.below hb | with_reducible exact K2.out.drewR.below hb); have K3 := Lib.hid (by first | with_reducible exact K3.out.below hb | with_reducible exact K3.out.drewR.below hb); have L0 := Lib.hid (by first | with_reducible exact L0.out.below hb | with_reducible exact L0.out.drewR.below hb); have L2 := Lib.hid (by first | with_reducible exact L2.out.below hb | with_reducible exact L2.out.drewR.below hb); clear hb))
      | fail
      all_goals
        have R6 := Lib.hid (keep hv4 R6.out)
        have R8 := Lib.hid (keep hv4 R8.out)
        have R10 := Lib.hid (keep hv4 R10.out)
        have R11 := Lib.hid (keep hv4 R11.out)
        replace hB := bstep hB hv4
        obtain ⟨qR8_0, qR8_1, qR8_2, qR8_3, qR8_4, qR8_5, qR8_6, qR8_7, qR8_8, qR8_9, qR8_10, qR8_11⟩ := rowc12 R8.out
        obtain ⟨qR10_0, qR10_1, qR10_2, qR10_3, qR10_4, qR10_5, qR10_6, qR10_7, qR10_8⟩ := rowc9 R10.out
        obtain ⟨qR11_0, qR11_1, qR11_2, qR11_3, qR11_4, qR11_5, qR11_6, qR11_7, qR11_8⟩ := rowc9 R11.out
        go_wp2_with fail
        clear qR8_0 qR8_1 qR8_2 qR8_3 qR8_4 qR8_5 qR8_6 qR8_7 qR8_8 qR8_9 qR8_10 qR8_11
        clear qR10_0 qR10_1 qR10_2 qR10_3 qR10_4 qR10_5 qR10_6 qR10_7 qR10_8
        clear qR11_0 qR11_1 qR11_2 qR11_3 qR11_4 qR11_5 qR11_6 qR11_7 qR11_8
        refine (J6.out _ _ _ _ _ _ K0.out K1.out K2.out K3.out).mono ?_
        rintro e w5 ⟨l, rfl, h5, hb⟩
        replace hB := bstep hB hb
        have R6 := Lib.hid (keep hb R6.out)
        have K5 := Lib.hid h5
        clear h5
        clear hb
        go_wp2_with fail
        refine (J7.out _ _ K5.out).mono ?_
        rintro e w6 ⟨rfl, hb⟩
        replace hB := bstep hB hb
        have R6 := Lib.hid (keep hb R6.out)
        clear hb
        obtain ⟨R6c0, R6c1, R6c2, R6f0, R6f1, R6f2⟩ := row3 R6.out
        go_wp2_with fail
        exact bodyPost_ret (res_ct rfl vec_row rfl (store3 R6.out _ _ _) rfl) rfl ⟨rfl, store3_below hB (by omega) _ _ _⟩
    · clear H6 H7
      simp only [Bool.not_true, if_true, Bool.false_eq_true, if_false] at *
      go_enter Tryz.func39, Tryz.ntmps39
      go_wp2_with fail
      generalize hW : (((World.alloc w _).alloc _).alloc _).alloc _ = W
      obtain ⟨hB, hsz, R3, R4, R5, R6⟩ := A4 hW
      have R3 := Lib.hid R3
      have R4 := Lib.hid R4
      have R5 := Lib.hid R5
      have R6 := Lib.hid R6
      clear hW hsz
      refine (H0.out _).mono ?_
      rintro e w1 ⟨m, p, d, rfl, h0, h1, hb⟩
      replace hB := bstep hB hb
      have R4 := Lib.hid (keep hb R4.out)
      have R5 := Lib.hid (keep hb R5.out)
      have R6 := Lib.hid (keep hb R6.out)
      have K0 := Lib.hid h0
      clear h0
      have K1 := Lib.hid h1
      clear h1
      clear hb
      go_upto_region 2 with fail
      generalize hW : World.alloc _ _ = V
      obtain ⟨hb, hsz, R8⟩ := A1 hW
      replace hB := bstep hB hb
      have R4 := Lib.hid (keep hb R4.out)
      have R5 := Lib.hid (keep hb R5.out)
      have R6 := Lib.hid (keep hb R6.out)
      have K0 := Lib.hid (K0.out.below hb)
      have K1 := Lib.hid (K1.out.below hb)
      clear hb
      have R8 := Lib.hid R8
      clear hW hsz
      obtain ⟨R4c0, R4c1, R4c2, R4f0, R4f1, R4f2⟩ := row3 R4.out
      obtain ⟨R5c0, R5c1, R5c2, R5f0, R5f1, R5f2⟩ := row3 R5.out
      go_wp2_with fail
      clear R4c0 R4c1 R4c2 R4f0 R4f1 R4f2
      clear R5c0 R5c1 R5c2 R5f0 R5f1 R5f2
      refine (H1.out _).mono ?_
      rintro e w2 ⟨x, y, rfl, h2, h3, hb⟩
      replace hB := bstep hB hb
      have R6 := Lib.hid (keep hb R6.out)
      have R8 := Lib.hid (keep hb R8.out)
      have K0 := Lib.hid (K0.out.below hb)
      have K1 := Lib.hid (K1.out.below hb)
      have K2 := Lib.hid h2
      clear h2
      have K3 := Lib.hid h3
      clear h3
      clear hb
      go_upto_region 3 with fail
      generalize hW : (World.alloc _ _).alloc _ = V2
      obtain ⟨hb, hsz, R10, R11⟩ := A2 hW
      replace hB := bstep hB hb
      have R6 := Lib.hid (keep hb R6.out)
      have R8 := Lib.hid (keep hb R8.out)
      have K0 := Lib.hid (K0.out.below hb)
      have K1 := Lib.hid (K1.out.below hb)
      have K2 := Lib.hid (K2.out.below hb)
      have K3 := Lib.hid (K3.out.below hb)
      clear hb
      have R10 := Lib.hid R10
      have R11 := Lib.hid R11
      clear hW hsz
      go_wp2_with fail
      have LR8 := fun (w' : World) (h : Ap V2.heap.size V2.heap.size V2 w') => rowc12 (h.rowV R8.out)
      have LR10 := fun (w' : World) (h : Ap V2.heap.size V2.heap.size V2 w') => rowc9 (h.rowV R10.out)
      have LR11 := fun (w' : World) (h : Ap V2.heap.size V2.heap.size V2 w') => rowc9 (h.rowV R11.out)
      have hvr := Below.refl V2.heap.size V2
      have hv0 := hvr.drew
      first
      | go_region_held3 (fun w' => Ap V2.heap.size V2.heap.size V2 w') (first | (with_reducible assumption) | (with_reducible exact Ap.refl _ _ _) | ((repeat (first | with_reducible assumption | with_reducible exact Ap.refl _ _ _ | with_reducible refine Ap.drew ?_ | with_reducible refine Ap.alloc ?_ | with_reducible refine Ap.set1 ?_ | with_reducible refine Ap.set2 ?_ | with_reducible refine Ap.setN (by first | with_reducible assumption | with_reducible exact Nat.le_refl _ | with_reducible exact Nat.le_add_right _ _ | with_reducible exact Nat.le_trans (by assumption) (Nat.le_add_right _ _)) ?_)); done))
          (first
            | (go_at_call 94; (with_reducible refine (H2.out _  m p d x (by first | with_reducible exact K0.out | with_reducible exact K0.out.drewR) (by first | with_reducible exact K1.out | with_reducible exact K1.out.drewR) (by first | with_reducible exact K2.out | with_reducible exact K2.out.drewR)).mono ?_); rintro e wq0 ⟨p_0, d_0, rfl, hk_0, hb⟩; have hv1 : Below V2.heap.size V2 wq0 := (by first | with_reducible exact bstep (hv0) hb); have hs1 := Ap.of_below (g := V2.heap.size) (h := V2.heap.size) hv1; have sz1 := hv1.size; have K0 := Lib.hid (by first | with_reducible exact K0.out.below hb | with_reducible exact K0.out.drewR.below hb); have K1 := Lib.hid (by first | with_reducible exact K1.out.below hb | with_reducible exact K1.out.drewR.below hb); have K2 := Lib.hid (by first | with_reducible exact K2.out.below hb | with_reducible exact K2.out.drewR.below hb); have K3 := Lib.hid (by first | with_reducible exact K3.out.below hb | with_reducible exact K3.out.drewR.below hb); have L0 := Lib.hid hk_0; clear hk_0; clear hb)
            | (go_at_call 93; (with_reducible refine (H3.out _  p_0 d_0 (by first | with_reducible exact L0.out | with_reducible exact L0.out.drewR)).mono ?_); rintro e wq1 ⟨rfl, hb⟩; have hv2 : Below V2.heap.size V2 wq1 := (by first | with_reducible exact bstep (hv1) hb); have hs2 := Ap.of_below (g := V2.heap.size) (h := V2.heap.size) hv2; have sz2 := hv2.size; have K0 := Lib.hid (by first | with_reducible exact K0.out.below hb | with_reducible exact K0.out.drewR.below hb); have K1 := Lib.hid (by first | with_reducible exact K1.out.below hb | with_reducible exact K1.out.drewR.below hb); have K2 := Lib.hid (by first | with_reducible exact K2.out.below hb | with_reducible exact K2.out.drewR.below hb); have K3 := Lib.hid (by first | with_reducible exact K3.out.below hb | with_reducible exact K3.out.drewR.below hb); have L0 := Lib.hid (by first | with_reducible exact L0.out.below hb | with_reducible exact L0.out.drewR.below hb); clear hb)
            | (go_at_call 94; (with_reducible refine (H4.out _  m p d y (by first | with_reducible exact K0.out | with_reducible exact K0.out.drewR) (by first | with_reducible exact K1.out | with_reducible exact K1.out.drewR) (by first | with_reducible exact K3.out | with_reducible exact K3.out.drewR)).mono ?_); rintro e wq2 ⟨p_2, d_2, rfl, hk_2, hb⟩; have hv3 : Below V2.heap.size V2 wq2 := (by first | with_reducible exact bstep (hv2) hb); have hs3 := Ap.of_below (g := V2.heap.size) (h := V2.heap.size) hv3; have sz3 := hv3.size; have K0 := Lib.hid (by first | with_reducible exact K0.out.below hb | with_reducible exact K0.out.drewR.below hb); have K1 := Lib.hid (by first | with_reducible exact K1.out.below hb | with_reducible exact K1.out.drewR.below hb); have K2 := Lib.hid (by first | with_reducible exact K2.out.below hb | with_reducible exact K2.out.drewR.below hb); have K3 := Lib.hid (by first | with_reducible exact K3.out.below hb | with_reducible exact K3.out.drewR.below hb); have L0 := Lib.hid (by first | with_reducible exact L0.out.below hb | with_reducible exact L0.out.drewR.below hb); have L2 := Lib.hid hk_2; clear hk_2; clear hb)
            | (go_at_call 93; (with_reducible refine (H5.out _  p_2 d_2 (by first | with_reducible exact L2.out | with_reducible exact L2.out.drewR)).mono ?_); rintro e wq3 ⟨rfl, hb⟩; have hv4 : Below V2.heap.size V2 wq3 := (by first | with_reducible exact bstep (hv3) hb); have hs4 := Ap.of_below (g := V2.heap.size) (h := V2.heap.size) hv4; have sz4 := hv4.size; have K0 := Lib.hid (by first | with_reducible exact K0.out.below hb | with_reducible exact K0.out.drewR.below hb); have K1 := Lib.hid (by first | with_reducible exact K1.out.below hb | with_reducible exact K1.out.drewR.below hb); have K2 := Lib.hid (by first | with_reducible exact K2.out.below hb | with_reducible exact K2.out.drewR.below hb); have K3 := Lib.hid (by first | with_reducible exact K3.out.below hb | with_reducible exact K3.out.drewR.below hb); have L0 := Lib.hid (by first | with_reducible exact L0.out.below hb | with_reducible exact L0.out.drewR.below hb); have L2 := Lib.hid (by first | with_reducible exact L2.out.below hb | with_reducible exact L2.out.drewR.below hb); clear hb))
      | fail
      all_goals
        have R6 := Lib.hid (keep hv4 R6.out)
        have R8 := Lib.hid (keep hv4 R8.out)
        have R10 := Lib.hid (keep hv4 R10.out)
        have R11 := Lib.hid (keep hv4 R11.out)
        replace hB := bstep hB hv4
        obtain ⟨R6c0, R6c1, R6c2, R6f0, R6f1, R6f2⟩ := row3 R6.out
        go_wp2_with fail
        exact bodyPost_ret (res_ct rfl vec_row rfl (store3 R6.out _ _ _) rfl) rfl ⟨rfl, store3_below hB (by omega) _ _ _⟩
end Go.Proofs.YtgbabmkclojgeaaGreatDoor
