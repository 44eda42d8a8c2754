/- The reference of layer 11: Add, Sub, Cross, Dot. -/
import Derived.Test.YtgbabmkclojgeaaGreatDoorQlVector
import Derived.Test.YtgbabmkclojgeaaGreatDoorQkRef
import Derived.Test.YtgbabmkclojgeaaGreatDoorQmRef
namespace Go.Proofs.YtgbabmkclojgeaaGreatDoor
open Go.RowKit Go.Shelf Go.Sort

attribute [local go_sem] Oper.semAt_some


set_option maxRecDepth 100000 in
set_option maxHeartbeats 16000000 in
theorem r11_Dot (s t : ByteArray × ByteArray × ByteArray) (w : World) (hs : Sh20 s) (ht : Sh20 t) :
    Calls Tryz.prog 27 #[txW s, txW t] w fun e w' => e = .returned (.tuple #[qres (vvB s && vvB t) (dotV (vvX s) (vvX t)), .int .i64 (eres (vvB s && vvB t))]) ∧ Below w.heap.size w w' := by
  have H0 := fun W => r11_both s t W (sh20_6 hs) (sh20_6 ht)
  have z1 := szV_text hs
  have z2 := szV_text ht
  have H1 := Lib.hid (fun W u v (h0 : RV W u (vvX s)) (h1 : RV W v (vvX t)) => r11_Inner (vvX s) (vvX t) u v W h0 h1 (z1.mono (by decide)) (z2.mono (by decide)))
  have z3 : Sz 40000000 (dotI (vvX s) (vvX t)) := (sz_dotI z1 z2).mono (by decide)
  rw [← dotI_eq]
  have H2 := Lib.hid (fun W p d (h : RQ W p d (dotI (vvX s) (vvX t))) => r3_To _ p d W h z3)
  unfold txW at *
  clear z1 z2 z3 hs ht
  generalize dotI (vvX s) (vvX t) = c at *
  generalize vvX s = a at *
  generalize vvX t = b at *
  generalize (vvB s && vvB t) = ok at *
  obtain ⟨s0, s1, s2⟩ := s
  obtain ⟨t0, t1, t2⟩ := t
  simp only at *
  unfold qres eres
  generalize sgB a.x.num = ax_ at *
  generalize sgB a.y.num = ay_ at *
  generalize sgB a.z.num = az_ at *
  generalize sgB b.x.num = bx_ at *
  generalize sgB b.y.num = by_ at *
  generalize sgB b.z.num = bz_ at *
  generalize sgB c.num = c0_ at *
  cases ok
  · simp only [Bool.false_eq_true, if_false] at *
    have H0 := Lib.hid H0
    go_enter Tryz.func27, Tryz.ntmps27
    go_wp2_with fail
    generalize hW : (World.alloc w _).alloc _ = W
    obtain ⟨hB, hsz, R1, R2⟩ := A2 hW
    have R1 := Lib.hid R1
    have R2 := Lib.hid R2
    clear hW hsz
    refine (H0.out _).mono ?_
    rintro e w1 ⟨u, v, rfl, h0, h1, hb⟩
    replace hB := bstep hB hb
    have K0 := Lib.hid h0
    clear h0
    have K1 := Lib.hid h1
    clear h1
    clear hb
    go_upto_region 2 with fail
    generalize hW : (World.alloc _ _).alloc _ = V
    obtain ⟨hb, hsz, R6, R7⟩ := A2 hW
    replace hB := bstep hB hb
    have K0 := Lib.hid (K0.out.below hb)
    have K1 := Lib.hid (K1.out.below hb)
    clear hb
    have R6 := Lib.hid R6
    have R7 := Lib.hid R7
    clear hW hsz
    go_wp2_with fail
    exact bodyPost_ret (results_tmp2 rfl _ _ _) rfl ⟨rfl, hB⟩
  · simp only [if_true] at *
    have H0 := Lib.hid H0
    go_enter Tryz.func27, Tryz.ntmps27
    go_wp2_with fail
    generalize hW : (World.alloc w _).alloc _ = W
    obtain ⟨hB, hsz, R1, R2⟩ := A2 hW
    have R1 := Lib.hid R1
    have R2 := Lib.hid R2
    clear hW hsz
    refine (H0.out _).mono ?_
    rintro e w1 ⟨u, v, rfl, h0, h1, hb⟩
    replace hB := bstep hB hb
    have K0 := Lib.hid h0
    clear h0
    have K1 := Lib.hid h1
    clear h1
    clear hb
    go_upto_region 2 with fail
    generalize hW : (World.alloc _ _).alloc _ = V
    obtain ⟨hb, hsz, R6, R7⟩ := A2 hW
    replace hB := bstep hB hb
    have K0 := Lib.hid (K0.out.below hb)
    have K1 := Lib.hid (K1.out.below hb)
    clear hb
    have R6 := Lib.hid R6
    have R7 := Lib.hid R7
    clear hW hsz
    obtain ⟨R6c0, R6c1, R6c2, R6c3, R6c4, R6c5, R6c6, R6c7, R6c8, R6f0, R6f1, R6f2, R6f3, R6f4, R6f5, R6f6, R6f7, R6f8⟩ := row9 R6.out
    obtain ⟨R7c0, R7c1, R7c2, R7c3, R7c4, R7c5, R7c6, R7c7, R7c8, R7f0, R7f1, R7f2, R7f3, R7f4, R7f5, R7f6, R7f7, R7f8⟩ := row9 R7.out
    go_wp2_with fail
    refine (H1.out _ _ _ K0.out K1.out).mono ?_
    rintro e w2 ⟨p, d, rfl, h2, hb⟩
    replace hB := bstep hB hb
    have K2 := Lib.hid h2
    clear h2
    clear hb
    go_wp2_with fail
    refine (H2.out _ _ _ K2.out).mono ?_
    rintro e w3 ⟨rfl, hb⟩
    replace hB := bstep hB hb
    clear hb
    go_wp2_with fail
    exact bodyPost_ret (results_tmp2 rfl _ _ _) rfl ⟨rfl, hB⟩

set_option maxRecDepth 100000 in
set_option maxHeartbeats 16000000 in
theorem r11_Add (s t : ByteArray × ByteArray × ByteArray) (w : World) (hs : Sh20 s) (ht : Sh20 t) :
    Calls Tryz.prog 21 #[txW s, txW t] w fun e w' => e = .returned (.tuple #[vres (vvB s && vvB t) (addV (vvX s) (vvX t)), .int .i64 (eres (vvB s && vvB t))]) ∧ Below w.heap.size w w' := by
  have H0 := fun W => r11_both s t W (sh20_6 hs) (sh20_6 ht)
  have z1 := szV_text hs
  have z2 := szV_text ht
  have H1 := Lib.hid (fun W u v (h0 : RV W u (vvX s)) (h1 : RV W v (vvX t)) => r11_Plus (vvX s) (vvX t) u v W h0 h1 (z1.mono (by decide)) (z2.mono (by decide)))
  have z3 : SzV 40000000 (addV (vvX s) (vvX t)) := (szV_add z1 z2).mono (by decide)
  have H2 := Lib.hid (fun W u (h : RV W u (addV (vvX s) (vvX t))) => r11_To _ u W h z3)
  unfold txW at *
  clear z1 z2 z3 hs ht
  generalize addV (vvX s) (vvX t) = c at *
  generalize vvX s = a at *
  generalize vvX t = b at *
  generalize (vvB s && vvB t) = ok at *
  obtain ⟨s0, s1, s2⟩ := s
  obtain ⟨t0, t1, t2⟩ := t
  simp only at *
  unfold vres eres
  unfold vV at *
  generalize sgB a.x.num = ax_ at *
  generalize sgB a.y.num = ay_ at *
  generalize sgB a.z.num = az_ at *
  generalize sgB b.x.num = bx_ at *
  generalize sgB b.y.num = by_ at *
  generalize sgB b.z.num = bz_ at *
  generalize sgB c.x.num = cx_ at *
  generalize sgB c.y.num = cy_ at *
  generalize sgB c.z.num = cz_ at *
  cases ok
  · simp only [Bool.false_eq_true, if_false] at *
    have H0 := Lib.hid H0
    go_enter Tryz.func21, Tryz.ntmps21
    go_wp2_with fail
    generalize hW : ((World.alloc w _).alloc _).alloc _ = W
    obtain ⟨hB, hsz, R1, R2, R3⟩ := A3 hW
    have R1 := Lib.hid R1
    have R2 := Lib.hid R2
    have R3 := Lib.hid R3
    clear hW hsz
    refine (H0.out _).mono ?_
    rintro e w1 ⟨u, v, rfl, h0, h1, hb⟩
    replace hB := bstep hB hb
    have R3 := Lib.hid (keep hb R3.out)
    have K0 := Lib.hid h0
    clear h0
    have K1 := Lib.hid h1
    clear h1
    clear hb
    go_upto_region 2 with fail
    generalize hW : (World.alloc _ _).alloc _ = V
    obtain ⟨hb, hsz, R6, R7⟩ := A2 hW
    replace hB := bstep hB hb
    have R3 := Lib.hid (keep hb R3.out)
    have K0 := Lib.hid (K0.out.below hb)
    have K1 := Lib.hid (K1.out.below hb)
    clear hb
    have R6 := Lib.hid R6
    have R7 := Lib.hid R7
    clear hW hsz
    obtain ⟨R3c0, R3c1, R3c2, R3f0, R3f1, R3f2⟩ := row3 R3.out
    go_wp2_with fail
    exact bodyPost_ret (res_ct rfl vec_row rfl (store3 R3.out _ _ _) rfl) rfl ⟨rfl, store3_below hB (by omega) _ _ _⟩
  · simp only [if_true] at *
    have H0 := Lib.hid H0
    go_enter Tryz.func21, Tryz.ntmps21
    go_wp2_with fail
    generalize hW : ((World.alloc w _).alloc _).alloc _ = W
    obtain ⟨hB, hsz, R1, R2, R3⟩ := A3 hW
    have R1 := Lib.hid R1
    have R2 := Lib.hid R2
    have R3 := Lib.hid R3
    clear hW hsz
    refine (H0.out _).mono ?_
    rintro e w1 ⟨u, v, rfl, h0, h1, hb⟩
    replace hB := bstep hB hb
    have R3 := Lib.hid (keep hb R3.out)
    have K0 := Lib.hid h0
    clear h0
    have K1 := Lib.hid h1
    clear h1
    clear hb
    go_upto_region 2 with fail
    generalize hW : (World.alloc _ _).alloc _ = V
    obtain ⟨hb, hsz, R6, R7⟩ := A2 hW
    replace hB := bstep hB hb
    have R3 := Lib.hid (keep hb R3.out)
    have K0 := Lib.hid (K0.out.below hb)
    have K1 := Lib.hid (K1.out.below hb)
    clear hb
    have R6 := Lib.hid R6
    have R7 := Lib.hid R7
    clear hW hsz
    obtain ⟨R6c0, R6c1, R6c2, R6c3, R6c4, R6c5, R6c6, R6c7, R6c8, R6f0, R6f1, R6f2, R6f3, R6f4, R6f5, R6f6, R6f7, R6f8⟩ := row9 R6.out
    obtain ⟨R7c0, R7c1, R7c2, R7c3, R7c4, R7c5, R7c6, R7c7, R7c8, R7f0, R7f1, R7f2, R7f3, R7f4, R7f5, R7f6, R7f7, R7f8⟩ := row9 R7.out
    go_wp2_with fail
    refine (H1.out _ _ _ K0.out K1.out).mono ?_
    rintro e w2 ⟨r, rfl, h2, hb⟩
    replace hB := bstep hB hb
    have R3 := Lib.hid (keep hb R3.out)
    have K2 := Lib.hid h2
    clear h2
    clear hb
    go_wp2_with fail
    refine (H2.out _ _ K2.out).mono ?_
    rintro e w3 ⟨rfl, hb⟩
    replace hB := bstep hB hb
    have R3 := Lib.hid (keep hb R3.out)
    clear hb
    obtain ⟨R3c0, R3c1, R3c2, R3f0, R3f1, R3f2⟩ := row3 R3.out
    go_wp2_with fail
    exact bodyPost_ret (res_ct rfl vec_row rfl (store3 R3.out _ _ _) rfl) rfl ⟨rfl, store3_below hB (by omega) _ _ _⟩

set_option maxRecDepth 100000 in
set_option maxHeartbeats 16000000 in
theorem r11_Sub (s t : ByteArray × ByteArray × ByteArray) (w : World) (hs : Sh20 s) (ht : Sh20 t) :
    Calls Tryz.prog 23 #[txW s, txW t] w fun e w' => e = .returned (.tuple #[vres (vvB s && vvB t) (subV (vvX s) (vvX t)), .int .i64 (eres (vvB s && vvB t))]) ∧ Below w.heap.size w w' := by
  have H0 := fun W => r11_both s t W (sh20_6 hs) (sh20_6 ht)
  have z1 := szV_text hs
  have z2 := szV_text ht
  have H1 := Lib.hid (fun W u v (h0 : RV W u (vvX s)) (h1 : RV W v (vvX t)) => r11_Minus (vvX s) (vvX t) u v W h0 h1 (z1.mono (by decide)) (z2.mono (by decide)))
  have z3 : SzV 40000000 (subV (vvX s) (vvX t)) := (szV_sub z1 z2).mono (by decide)
  have H2 := Lib.hid (fun W u (h : RV W u (subV (vvX s) (vvX t))) => r11_To _ u W h z3)
  unfold txW at *
  clear z1 z2 z3 hs ht
  generalize subV (vvX s) (vvX t) = c at *
  generalize vvX s = a at *
  generalize vvX t = b at *
  generalize (vvB s && vvB t) = ok at *
  obtain ⟨s0, s1, s2⟩ := s
  obtain ⟨t0, t1, t2⟩ := t
  simp only at *
  unfold vres eres
  unfold vV at *
  generalize sgB a.x.num = ax_ at *
  generalize sgB a.y.num = ay_ at *
  generalize sgB a.z.num = az_ at *
  generalize sgB b.x.num = bx_ at *
  generalize sgB b.y.num = by_ at *
  generalize sgB b.z.num = bz_ at *
  generalize sgB c.x.num = cx_ at *
  generalize sgB c.y.num = cy_ at *
  generalize sgB c.z.num = cz_ at *
  cases ok
  · simp only [Bool.false_eq_true, if_false] at *
    have H0 := Lib.hid H0
    go_enter Tryz.func23, Tryz.ntmps23
    go_wp2_with fail
    generalize hW : ((World.alloc w _).alloc _).alloc _ = W
    obtain ⟨hB, hsz, R1, R2, R3⟩ := A3 hW
    have R1 := Lib.hid R1
    have R2 := Lib.hid R2
    have R3 := Lib.hid R3
    clear hW hsz
    refine (H0.out _).mono ?_
    rintro e w1 ⟨u, v, rfl, h0, h1, hb⟩
    replace hB := bstep hB hb
    have R3 := Lib.hid (keep hb R3.out)
    have K0 := Lib.hid h0
    clear h0
    have K1 := Lib.hid h1
    clear h1
    clear hb
    go_upto_region 2 with fail
    generalize hW : (World.alloc _ _).alloc _ = V
    obtain ⟨hb, hsz, R6, R7⟩ := A2 hW
    replace hB := bstep hB hb
    have R3 := Lib.hid (keep hb R3.out)
    have K0 := Lib.hid (K0.out.below hb)
    have K1 := Lib.hid (K1.out.below hb)
    clear hb
    have R6 := Lib.hid R6
    have R7 := Lib.hid R7
    clear hW hsz
    obtain ⟨R3c0, R3c1, R3c2, R3f0, R3f1, R3f2⟩ := row3 R3.out
    go_wp2_with fail
    exact bodyPost_ret (res_ct rfl vec_row rfl (store3 R3.out _ _ _) rfl) rfl ⟨rfl, store3_below hB (by omega) _ _ _⟩
  · simp only [if_true] at *
    have H0 := Lib.hid H0
    go_enter Tryz.func23, Tryz.ntmps23
    go_wp2_with fail
    generalize hW : ((World.alloc w _).alloc _).alloc _ = W
    obtain ⟨hB, hsz, R1, R2, R3⟩ := A3 hW
    have R1 := Lib.hid R1
    have R2 := Lib.hid R2
    have R3 := Lib.hid R3
    clear hW hsz
    refine (H0.out _).mono ?_
    rintro e w1 ⟨u, v, rfl, h0, h1, hb⟩
    replace hB := bstep hB hb
    have R3 := Lib.hid (keep hb R3.out)
    have K0 := Lib.hid h0
    clear h0
    have K1 := Lib.hid h1
    clear h1
    clear hb
    go_upto_region 2 with fail
    generalize hW : (World.alloc _ _).alloc _ = V
    obtain ⟨hb, hsz, R6, R7⟩ := A2 hW
    replace hB := bstep hB hb
    have R3 := Lib.hid (keep hb R3.out)
    have K0 := Lib.hid (K0.out.below hb)
    have K1 := Lib.hid (K1.out.below hb)
    clear hb
    have R6 := Lib.hid R6
    have R7 := Lib.hid R7
    clear hW hsz
    obtain ⟨R6c0, R6c1, R6c2, R6c3, R6c4, R6c5, R6c6, R6c7, R6c8, R6f0, R6f1, R6f2, R6f3, R6f4, R6f5, R6f6, R6f7, R6f8⟩ := row9 R6.out
    obtain ⟨R7c0, R7c1, R7c2, R7c3, R7c4, R7c5, R7c6, R7c7, R7c8, R7f0, R7f1, R7f2, R7f3, R7f4, R7f5, R7f6, R7f7, R7f8⟩ := row9 R7.out
    go_wp2_with fail
    refine (H1.out _ _ _ K0.out K1.out).mono ?_
    rintro e w2 ⟨r, rfl, h2, hb⟩
    replace hB := bstep hB hb
    have R3 := Lib.hid (keep hb R3.out)
    have K2 := Lib.hid h2
    clear h2
    clear hb
    go_wp2_with fail
    refine (H2.out _ _ K2.out).mono ?_
    rintro e w3 ⟨rfl, hb⟩
    replace hB := bstep hB hb
    have R3 := Lib.hid (keep hb R3.out)
    clear hb
    obtain ⟨R3c0, R3c1, R3c2, R3f0, R3f1, R3f2⟩ := row3 R3.out
    go_wp2_with fail
    exact bodyPost_ret (res_ct rfl vec_row rfl (store3 R3.out _ _ _) rfl) rfl ⟨rfl, store3_below hB (by omega) _ _ _⟩

set_option maxRecDepth 100000 in
set_option maxHeartbeats 16000000 in
theorem r11_Cross (s t : ByteArray × ByteArray × ByteArray) (w : World) (hs : Sh20 s) (ht : Sh20 t) :
    Calls Tryz.prog 29 #[txW s, txW t] w fun e w' => e = .returned (.tuple #[vres (vvB s && vvB t) (crossV (vvX s) (vvX t)), .int .i64 (eres (vvB s && vvB t))]) ∧ Below w.heap.size w w' := by
  have H0 := fun W => r11_both s t W (sh20_6 hs) (sh20_6 ht)
  have z1 := szV_text hs
  have z2 := szV_text ht
  have H1 := Lib.hid (fun W u v (h0 : RV W u (vvX s)) (h1 : RV W v (vvX t)) => r11_Outer (vvX s) (vvX t) u v W h0 h1 (z1.mono (by decide)) (z2.mono (by decide)))
  have z3 : SzV 40000000 (crossV (vvX s) (vvX t)) := (szV_cross z1 z2).mono (by decide)
  have H2 := Lib.hid (fun W u (h : RV W u (crossV (vvX s) (vvX t))) => r11_To _ u W h z3)
  unfold txW at *
  clear z1 z2 z3 hs ht
  generalize crossV (vvX s) (vvX t) = c at *
  generalize vvX s = a at *
  generalize vvX t = b at *
  generalize (vvB s && vvB t) = ok at *
  obtain ⟨s0, s1, s2⟩ := s
  obtain ⟨t0, t1, t2⟩ := t
  simp only at *
  unfold vres eres
  unfold vV at *
  generalize sgB a.x.num = ax_ at *
  generalize sgB a.y.num = ay_ at *
  generalize sgB a.z.num = az_ at *
  generalize sgB b.x.num = bx_ at *
  generalize sgB b.y.num = by_ at *
  generalize sgB b.z.num = bz_ at *
  generalize sgB c.x.num = cx_ at *
  generalize sgB c.y.num = cy_ at *
  generalize sgB c.z.num = cz_ at *
  cases ok
  · simp only [Bool.false_eq_true, if_false] at *
    have H0 := Lib.hid H0
    go_enter Tryz.func29, Tryz.ntmps29
    go_wp2_with fail
    generalize hW : ((World.alloc w _).alloc _).alloc _ = W
    obtain ⟨hB, hsz, R1, R2, R3⟩ := A3 hW
    have R1 := Lib.hid R1
    have R2 := Lib.hid R2
    have R3 := Lib.hid R3
    clear hW hsz
    refine (H0.out _).mono ?_
    rintro e w1 ⟨u, v, rfl, h0, h1, hb⟩
    replace hB := bstep hB hb
    have R3 := Lib.hid (keep hb R3.out)
    have K0 := Lib.hid h0
    clear h0
    have K1 := Lib.hid h1
    clear h1
    clear hb
    go_upto_region 2 with fail
    generalize hW : (World.alloc _ _).alloc _ = V
    obtain ⟨hb, hsz, R6, R7⟩ := A2 hW
    replace hB := bstep hB hb
    have R3 := Lib.hid (keep hb R3.out)
    have K0 := Lib.hid (K0.out.below hb)
    have K1 := Lib.hid (K1.out.below hb)
    clear hb
    have R6 := Lib.hid R6
    have R7 := Lib.hid R7
    clear hW hsz
    obtain ⟨R3c0, R3c1, R3c2, R3f0, R3f1, R3f2⟩ := row3 R3.out
    go_wp2_with fail
    exact bodyPost_ret (res_ct rfl vec_row rfl (store3 R3.out _ _ _) rfl) rfl ⟨rfl, store3_below hB (by omega) _ _ _⟩
  · simp only [if_true] at *
    have H0 := Lib.hid H0
    go_enter Tryz.func29, Tryz.ntmps29
    go_wp2_with fail
    generalize hW : ((World.alloc w _).alloc _).alloc _ = W
    obtain ⟨hB, hsz, R1, R2, R3⟩ := A3 hW
    have R1 := Lib.hid R1
    have R2 := Lib.hid R2
    have R3 := Lib.hid R3
    clear hW hsz
    refine (H0.out _).mono ?_
    rintro e w1 ⟨u, v, rfl, h0, h1, hb⟩
    replace hB := bstep hB hb
    have R3 := Lib.hid (keep hb R3.out)
    have K0 := Lib.hid h0
    clear h0
    have K1 := Lib.hid h1
    clear h1
    clear hb
    go_upto_region 2 with fail
    generalize hW : (World.alloc _ _).alloc _ = V
    obtain ⟨hb, hsz, R6, R7⟩ := A2 hW
    replace hB := bstep hB hb
    have R3 := Lib.hid (keep hb R3.out)
    have K0 := Lib.hid (K0.out.below hb)
    have K1 := Lib.hid (K1.out.below hb)
    clear hb
    have R6 := Lib.hid R6
    have R7 := Lib.hid R7
    clear hW hsz
    obtain ⟨R6c0, R6c1, R6c2, R6c3, R6c4, R6c5, R6c6, R6c7, R6c8, R6f0, R6f1, R6f2, R6f3, R6f4, R6f5, R6f6, R6f7, R6f8⟩ := row9 R6.out
    obtain ⟨R7c0, R7c1, R7c2, R7c3, R7c4, R7c5, R7c6, R7c7, R7c8, R7f0, R7f1, R7f2, R7f3, R7f4, R7f5, R7f6, R7f7, R7f8⟩ := row9 R7.out
    go_wp2_with fail
    refine (H1.out _ _ _ K0.out K1.out).mono ?_
    rintro e w2 ⟨r, rfl, h2, hb⟩
    replace hB := bstep hB hb
    have R3 := Lib.hid (keep hb R3.out)
    have K2 := Lib.hid h2
    clear h2
    clear hb
    go_wp2_with fail
    refine (H2.out _ _ K2.out).mono ?_
    rintro e w3 ⟨rfl, hb⟩
    replace hB := bstep hB hb
    have R3 := Lib.hid (keep hb R3.out)
    clear hb
    obtain ⟨R3c0, R3c1, R3c2, R3f0, R3f1, R3f2⟩ := row3 R3.out
    go_wp2_with fail
    exact bodyPost_ret (res_ct rfl vec_row rfl (store3 R3.out _ _ _) rfl) rfl ⟨rfl, store3_below hB (by omega) _ _ _⟩

set_option maxRecDepth 100000 in
set_option maxHeartbeats 16000000 in
theorem r11_Scale (s : ByteArray × ByteArray × ByteArray) (x : ByteArray) (w : World) (hs : Sh20 s) (hx : x.size ≤ 20) :
    Calls Tryz.prog 25 #[txW s, .string x] w fun e w' => e = .returned (.tuple #[vres (vvB s && rvB x) (scaleV (vvX s) (rvX x)), .int .i64 (eres (vvB s && rvB x))]) ∧ Below w.heap.size w w' := by
  have H0 := Lib.hid (fun W => r11_From s W (sh20_6 hs))
  have H1 := fun W => r3_From x W (by omega)
  unfold FrP at H1
  have H1 := Lib.hid H1
  have z1 := szV_text hs
  have z2 := sz_rvX hx (by decide)
  have H2 := Lib.hid (fun W u p d (h0 : RV W u (vvX s)) (h1 : RQ W p d (rvX x)) => r11_Times (vvX s) (rvX x) u p d W h0 h1 (z1.mono (by decide)) (z2.mono (by decide)))
  have z3 : SzV 40000000 (scaleV (vvX s) (rvX x)) := ⟨(sz_mul z1.1 z2).mono (by decide), (sz_mul z1.2.1 z2).mono (by decide), (sz_mul z1.2.2 z2).mono (by decide)⟩
  have H3 := Lib.hid (fun W u (h : RV W u (scaleV (vvX s) (rvX x))) => r11_To _ u W h z3)
  unfold txW at *
  clear z1 z2 z3 hs hx
  generalize scaleV (vvX s) (rvX x) = c at *
  generalize vvX s = a at *
  generalize vvB s = k at *
  generalize rvX x = q at *
  generalize rvB x = j at *
  obtain ⟨s0, s1, s2⟩ := s
  simp only at *
  unfold vres eres
  unfold vV at *
  generalize sgB a.x.num = ax_ at *
  generalize sgB a.y.num = ay_ at *
  generalize sgB a.z.num = az_ at *
  generalize sgB c.x.num = cx_ at *
  generalize sgB c.y.num = cy_ at *
  generalize sgB c.z.num = cz_ at *
  generalize sgB q.num = q0_ at *
  cases k <;> cases j
  · simp only [Bool.and_self, Bool.false_eq_true, if_false] at *
    go_enter Tryz.func25, Tryz.ntmps25
    go_wp2_with fail
    generalize hW : (World.alloc w _).alloc _ = W
    obtain ⟨hB, hsz, R1, R3⟩ := A2 hW
    have R1 := Lib.hid R1
    have R3 := Lib.hid R3
    clear hW hsz
    refine (H0.out _).mono ?_
    rintro e w1 ⟨u, rfl, h0, hb⟩
    replace hB := bstep hB hb
    have R3 := Lib.hid (keep hb R3.out)
    have K0 := Lib.hid h0
    clear h0
    clear hb
    go_upto_region 2 with fail
    generalize hW : World.alloc _ _ = V
    obtain ⟨hb, hsz, R6⟩ := A1 hW
    replace hB := bstep hB hb
    have R3 := Lib.hid (keep hb R3.out)
    have K0 := Lib.hid (K0.out.below hb)
    clear hb
    have R6 := Lib.hid R6
    clear hW hsz
    go_wp2_with fail
    refine (H1.out _).mono ?_
    rintro e w2 ⟨p, d, rfl, h1, hb⟩
    replace hB := bstep hB hb
    have R3 := Lib.hid (keep hb R3.out)
    have R6 := Lib.hid (keep hb R6.out)
    have K0 := Lib.hid (K0.out.below hb)
    have K1 := Lib.hid h1
    clear h1
    clear hb
    go_upto_region 3 with fail
    generalize hW : World.alloc _ _ = V2
    obtain ⟨hb, hsz, R7⟩ := A1 hW
    replace hB := bstep hB hb
    have R3 := Lib.hid (keep hb R3.out)
    have R6 := Lib.hid (keep hb R6.out)
    have K0 := Lib.hid (K0.out.below hb)
    have K1 := Lib.hid (K1.out.below hb)
    clear hb
    have R7 := Lib.hid R7
    clear hW hsz
    obtain ⟨R3c0, R3c1, R3c2, R3f0, R3f1, R3f2⟩ := row3 R3.out
    go_wp2_with fail
    exact bodyPost_ret (res_ct rfl vec_row rfl (store3 R3.out _ _ _) rfl) rfl ⟨rfl, store3_below hB (by omega) _ _ _⟩
  · simp only [Bool.false_and, Bool.false_eq_true, if_false] at *
    go_enter Tryz.func25, Tryz.ntmps25
    go_wp2_with fail
    generalize hW : (World.alloc w _).alloc _ = W
    obtain ⟨hB, hsz, R1, R3⟩ := A2 hW
    have R1 := Lib.hid R1
    have R3 := Lib.hid R3
    clear hW hsz
    refine (H0.out _).mono ?_
    rintro e w1 ⟨u, rfl, h0, hb⟩
    replace hB := bstep hB hb
    have R3 := Lib.hid (keep hb R3.out)
    have K0 := Lib.hid h0
    clear h0
    clear hb
    go_upto_region 2 with fail
    generalize hW : World.alloc _ _ = V
    obtain ⟨hb, hsz, R6⟩ := A1 hW
    replace hB := bstep hB hb
    have R3 := Lib.hid (keep hb R3.out)
    have K0 := Lib.hid (K0.out.below hb)
    clear hb
    have R6 := Lib.hid R6
    clear hW hsz
    go_wp2_with fail
    refine (H1.out _).mono ?_
    rintro e w2 ⟨p, d, rfl, h1, hb⟩
    replace hB := bstep hB hb
    have R3 := Lib.hid (keep hb R3.out)
    have R6 := Lib.hid (keep hb R6.out)
    have K0 := Lib.hid (K0.out.below hb)
    have K1 := Lib.hid h1
    clear h1
    clear hb
    go_upto_region 3 with fail
    generalize hW : World.alloc _ _ = V2
    obtain ⟨hb, hsz, R7⟩ := A1 hW
    replace hB := bstep hB hb
    have R3 := Lib.hid (keep hb R3.out)
    have R6 := Lib.hid (keep hb R6.out)
    have K0 := Lib.hid (K0.out.below hb)
    have K1 := Lib.hid (K1.out.below hb)
    clear hb
    have R7 := Lib.hid R7
    clear hW hsz
    obtain ⟨R3c0, R3c1, R3c2, R3f0, R3f1, R3f2⟩ := row3 R3.out
    go_wp2_with fail
    exact bodyPost_ret (res_ct rfl vec_row rfl (store3 R3.out _ _ _) rfl) rfl ⟨rfl, store3_below hB (by omega) _ _ _⟩
  · simp only [Bool.and_false, Bool.false_eq_true, if_false] at *
    go_enter Tryz.func25, Tryz.ntmps25
    go_wp2_with fail
    generalize hW : (World.alloc w _).alloc _ = W
    obtain ⟨hB, hsz, R1, R3⟩ := A2 hW
    have R1 := Lib.hid R1
    have R3 := Lib.hid R3
    clear hW hsz
    refine (H0.out _).mono ?_
    rintro e w1 ⟨u, rfl, h0, hb⟩
    replace hB := bstep hB hb
    have R3 := Lib.hid (keep hb R3.out)
    have K0 := Lib.hid h0
    clear h0
    clear hb
    go_upto_region 2 with fail
    generalize hW : World.alloc _ _ = V
    obtain ⟨hb, hsz, R6⟩ := A1 hW
    replace hB := bstep hB hb
    have R3 := Lib.hid (keep hb R3.out)
    have K0 := Lib.hid (K0.out.below hb)
    clear hb
    have R6 := Lib.hid R6
    clear hW hsz
    go_wp2_with fail
    refine (H1.out _).mono ?_
    rintro e w2 ⟨p, d, rfl, h1, hb⟩
    replace hB := bstep hB hb
    have R3 := Lib.hid (keep hb R3.out)
    have R6 := Lib.hid (keep hb R6.out)
    have K0 := Lib.hid (K0.out.below hb)
    have K1 := Lib.hid h1
    clear h1
    clear hb
    go_upto_region 3 with fail
    generalize hW : World.alloc _ _ = V2
    obtain ⟨hb, hsz, R7⟩ := A1 hW
    replace hB := bstep hB hb
    have R3 := Lib.hid (keep hb R3.out)
    have R6 := Lib.hid (keep hb R6.out)
    have K0 := Lib.hid (K0.out.below hb)
    have K1 := Lib.hid (K1.out.below hb)
    clear hb
    have R7 := Lib.hid R7
    clear hW hsz
    obtain ⟨R3c0, R3c1, R3c2, R3f0, R3f1, R3f2⟩ := row3 R3.out
    go_wp2_with fail
    exact bodyPost_ret (res_ct rfl vec_row rfl (store3 R3.out _ _ _) rfl) rfl ⟨rfl, store3_below hB (by omega) _ _ _⟩
  · simp only [Bool.and_self, if_true] at *
    go_enter Tryz.func25, Tryz.ntmps25
    go_wp2_with fail
    generalize hW : (World.alloc w _).alloc _ = W
    obtain ⟨hB, hsz, R1, R3⟩ := A2 hW
    have R1 := Lib.hid R1
    have R3 := Lib.hid R3
    clear hW hsz
    refine (H0.out _).mono ?_
    rintro e w1 ⟨u, rfl, h0, hb⟩
    replace hB := bstep hB hb
    have R3 := Lib.hid (keep hb R3.out)
    have K0 := Lib.hid h0
    clear h0
    clear hb
    go_upto_region 2 with fail
    generalize hW : World.alloc _ _ = V
    obtain ⟨hb, hsz, R6⟩ := A1 hW
    replace hB := bstep hB hb
    have R3 := Lib.hid (keep hb R3.out)
    have K0 := Lib.hid (K0.out.below hb)
    clear hb
    have R6 := Lib.hid R6
    clear hW hsz
    go_wp2_with fail
    refine (H1.out _).mono ?_
    rintro e w2 ⟨p, d, rfl, h1, hb⟩
    replace hB := bstep hB hb
    have R3 := Lib.hid (keep hb R3.out)
    have R6 := Lib.hid (keep hb R6.out)
    have K0 := Lib.hid (K0.out.below hb)
    have K1 := Lib.hid h1
    clear h1
    clear hb
    go_upto_region 3 with fail
    generalize hW : World.alloc _ _ = V2
    obtain ⟨hb, hsz, R7⟩ := A1 hW
    replace hB := bstep hB hb
    have R3 := Lib.hid (keep hb R3.out)
    have R6 := Lib.hid (keep hb R6.out)
    have K0 := Lib.hid (K0.out.below hb)
    have K1 := Lib.hid (K1.out.below hb)
    clear hb
    have R7 := Lib.hid R7
    clear hW hsz
    obtain ⟨R6c0, R6c1, R6c2, R6c3, R6c4, R6c5, R6c6, R6c7, R6c8, R6f0, R6f1, R6f2, R6f3, R6f4, R6f5, R6f6, R6f7, R6f8⟩ := row9 R6.out
    obtain ⟨R7c0, R7c1, R7c2, R7f0, R7f1, R7f2⟩ := row3 R7.out
    go_wp2_with fail
    refine (H2.out _ _ _ _ K0.out K1.out).mono ?_
    rintro e w3 ⟨r, rfl, h2, hb⟩
    replace hB := bstep hB hb
    have R3 := Lib.hid (keep hb R3.out)
    have K2 := Lib.hid h2
    clear h2
    clear hb
    go_wp2_with fail
    refine (H3.out _ _ K2.out).mono ?_
    rintro e w4 ⟨rfl, hb⟩
    replace hB := bstep hB hb
    have R3 := Lib.hid (keep hb R3.out)
    clear hb
    obtain ⟨R3c0, R3c1, R3c2, R3f0, R3f1, R3f2⟩ := row3 R3.out
    go_wp2_with fail
    exact bodyPost_ret (res_ct rfl vec_row rfl (store3 R3.out _ _ _) rfl) rfl ⟨rfl, store3_below hB (by omega) _ _ _⟩

set_option maxRecDepth 100000 in
set_option maxHeartbeats 16000000 in
theorem r11_Det (s t r : ByteArray × ByteArray × ByteArray) (w : World) (hs : Sh20 s) (ht : Sh20 t) (hr : Sh20 r) :
    Calls Tryz.prog 31 #[txW s, txW t, txW r] w fun e w' => e = .returned (.tuple #[qres (vvB s && vvB t && vvB r) (detV (vvX s) (vvX t) (vvX r)), .int .i64 (eres (vvB s && vvB t && vvB r))]) ∧ Below w.heap.size w w' := by
  have H0 := fun W => r11_both s t W (sh20_6 hs) (sh20_6 ht)
  have H1 := Lib.hid (fun W => r11_From r W (sh20_6 hr))
  have z1 := szV_text hs
  have z2 := szV_text ht
  have z3 := szV_text hr
  have e0 : detV (vvX s) (vvX t) (vvX r) = dotI (vvX s) (crossV (vvX t) (vvX r)) := by rw [dotI_eq]; rfl
  rw [e0]
  clear e0
  have H2 := Lib.hid (fun W u v y (h0 : RV W u (vvX s)) (h1 : RV W v (vvX t)) (h2 : RV W y (vvX r)) => r11_Triple (vvX s) (vvX t) (vvX r) u v y W h0 h1 h2 (z1.mono (by decide)) (z2.mono (by decide)) (z3.mono (by decide)))
  have z4 : Sz 40000000 (dotI (vvX s) (crossV (vvX t) (vvX r))) := (sz_dotI (z1.mono (by decide)) (szV_cross z2 z3)).mono (by decide)
  have H3 := Lib.hid (fun W p d (h : RQ W p d (dotI (vvX s) (crossV (vvX t) (vvX r)))) => r3_To _ p d W h z4)
  unfold txW at *
  clear z1 z2 z3 z4 hs ht hr
  generalize dotI (vvX s) (crossV (vvX t) (vvX r)) = q at *
  generalize vvX s = a at *
  generalize vvX t = b at *
  generalize vvX r = c at *
  generalize (vvB s && vvB t) = k at *
  generalize vvB r = j at *
  obtain ⟨s0, s1, s2⟩ := s
  obtain ⟨t0, t1, t2⟩ := t
  obtain ⟨r0, r1, r2⟩ := r
  simp only at *
  unfold qres eres
  generalize sgB a.x.num = ax_ at *
  generalize sgB a.y.num = ay_ at *
  generalize sgB a.z.num = az_ at *
  generalize sgB b.x.num = bx_ at *
  generalize sgB b.y.num = by_ at *
  generalize sgB b.z.num = bz_ at *
  generalize sgB c.x.num = cx_ at *
  generalize sgB c.y.num = cy_ at *
  generalize sgB c.z.num = cz_ at *
  generalize sgB q.num = q0_ at *
  cases k <;> cases j
  · simp only [Bool.and_self, Bool.false_eq_true, if_false] at *
    have H0 := Lib.hid H0
    go_enter Tryz.func31, Tryz.ntmps31
    go_wp2_with fail
    generalize hW : ((World.alloc w _).alloc _).alloc _ = W
    obtain ⟨hB, hsz, R1, R2, R3⟩ := A3 hW
    have R1 := Lib.hid R1
    have R2 := Lib.hid R2
    have R3 := Lib.hid R3
    clear hW hsz
    refine (H0.out _).mono ?_
    rintro e w1 ⟨u, v, rfl, h0, h1, hb⟩
    replace hB := bstep hB hb
    have R3 := Lib.hid (keep hb R3.out)
    have K0 := Lib.hid h0
    clear h0
    have K1 := Lib.hid h1
    clear h1
    clear hb
    go_upto_region 2 with fail
    generalize hW : (World.alloc _ _).alloc _ = V
    obtain ⟨hb, hsz, R6, R7⟩ := A2 hW
    replace hB := bstep hB hb
    have R3 := Lib.hid (keep hb R3.out)
    have K0 := Lib.hid (K0.out.below hb)
    have K1 := Lib.hid (K1.out.below hb)
    clear hb
    have R6 := Lib.hid R6
    have R7 := Lib.hid R7
    clear hW hsz
    obtain ⟨R3c0, R3c1, R3c2, R3f0, R3f1, R3f2⟩ := row3 R3.out
    go_wp2_with fail
    clear R3c0 R3c1 R3c2 R3f0 R3f1 R3f2
    refine (H1.out _).mono ?_
    rintro e w2 ⟨y, rfl, h2, hb⟩
    replace hB := bstep hB hb
    have R6 := Lib.hid (keep hb R6.out)
    have R7 := Lib.hid (keep hb R7.out)
    have K0 := Lib.hid (K0.out.below hb)
    have K1 := Lib.hid (K1.out.below hb)
    have K2 := Lib.hid h2
    clear h2
    clear hb
    go_upto_region 3 with fail
    generalize hW : World.alloc _ _ = V2
    obtain ⟨hb, hsz, R8⟩ := A1 hW
    replace hB := bstep hB hb
    have R6 := Lib.hid (keep hb R6.out)
    have R7 := Lib.hid (keep hb R7.out)
    have K0 := Lib.hid (K0.out.below hb)
    have K1 := Lib.hid (K1.out.below hb)
    have K2 := Lib.hid (K2.out.below hb)
    clear hb
    have R8 := Lib.hid R8
    clear hW hsz
    go_wp2_with fail
    exact bodyPost_ret (results_tmp2 rfl _ _ _) rfl ⟨rfl, hB⟩
  · simp only [Bool.false_and, Bool.false_eq_true, if_false] at *
    have H0 := Lib.hid H0
    go_enter Tryz.func31, Tryz.ntmps31
    go_wp2_with fail
    generalize hW : ((World.alloc w _).alloc _).alloc _ = W
    obtain ⟨hB, hsz, R1, R2, R3⟩ := A3 hW
    have R1 := Lib.hid R1
    have R2 := Lib.hid R2
    have R3 := Lib.hid R3
    clear hW hsz
    refine (H0.out _).mono ?_
    rintro e w1 ⟨u, v, rfl, h0, h1, hb⟩
    replace hB := bstep hB hb
    have R3 := Lib.hid (keep hb R3.out)
    have K0 := Lib.hid h0
    clear h0
    have K1 := Lib.hid h1
    clear h1
    clear hb
    go_upto_region 2 with fail
    generalize hW : (World.alloc _ _).alloc _ = V
    obtain ⟨hb, hsz, R6, R7⟩ := A2 hW
    replace hB := bstep hB hb
    have R3 := Lib.hid (keep hb R3.out)
    have K0 := Lib.hid (K0.out.below hb)
    have K1 := Lib.hid (K1.out.below hb)
    clear hb
    have R6 := Lib.hid R6
    have R7 := Lib.hid R7
    clear hW hsz
    obtain ⟨R3c0, R3c1, R3c2, R3f0, R3f1, R3f2⟩ := row3 R3.out
    go_wp2_with fail
    clear R3c0 R3c1 R3c2 R3f0 R3f1 R3f2
    refine (H1.out _).mono ?_
    rintro e w2 ⟨y, rfl, h2, hb⟩
    replace hB := bstep hB hb
    have R6 := Lib.hid (keep hb R6.out)
    have R7 := Lib.hid (keep hb R7.out)
    have K0 := Lib.hid (K0.out.below hb)
    have K1 := Lib.hid (K1.out.below hb)
    have K2 := Lib.hid h2
    clear h2
    clear hb
    go_upto_region 3 with fail
    generalize hW : World.alloc _ _ = V2
    obtain ⟨hb, hsz, R8⟩ := A1 hW
    replace hB := bstep hB hb
    have R6 := Lib.hid (keep hb R6.out)
    have R7 := Lib.hid (keep hb R7.out)
    have K0 := Lib.hid (K0.out.below hb)
    have K1 := Lib.hid (K1.out.below hb)
    have K2 := Lib.hid (K2.out.below hb)
    clear hb
    have R8 := Lib.hid R8
    clear hW hsz
    go_wp2_with fail
    exact bodyPost_ret (results_tmp2 rfl _ _ _) rfl ⟨rfl, hB⟩
  · simp only [Bool.and_false, Bool.false_eq_true, if_false, if_true] at *
    have H0 := Lib.hid H0
    go_enter Tryz.func31, Tryz.ntmps31
    go_wp2_with fail
    generalize hW : ((World.alloc w _).alloc _).alloc _ = W
    obtain ⟨hB, hsz, R1, R2, R3⟩ := A3 hW
    have R1 := Lib.hid R1
    have R2 := Lib.hid R2
    have R3 := Lib.hid R3
    clear hW hsz
    refine (H0.out _).mono ?_
    rintro e w1 ⟨u, v, rfl, h0, h1, hb⟩
    replace hB := bstep hB hb
    have R3 := Lib.hid (keep hb R3.out)
    have K0 := Lib.hid h0
    clear h0
    have K1 := Lib.hid h1
    clear h1
    clear hb
    go_upto_region 2 with fail
    generalize hW : (World.alloc _ _).alloc _ = V
    obtain ⟨hb, hsz, R6, R7⟩ := A2 hW
    replace hB := bstep hB hb
    have R3 := Lib.hid (keep hb R3.out)
    have K0 := Lib.hid (K0.out.below hb)
    have K1 := Lib.hid (K1.out.below hb)
    clear hb
    have R6 := Lib.hid R6
    have R7 := Lib.hid R7
    clear hW hsz
    obtain ⟨R3c0, R3c1, R3c2, R3f0, R3f1, R3f2⟩ := row3 R3.out
    go_wp2_with fail
    clear R3c0 R3c1 R3c2 R3f0 R3f1 R3f2
    refine (H1.out _).mono ?_
    rintro e w2 ⟨y, rfl, h2, hb⟩
    replace hB := bstep hB hb
    have R6 := Lib.hid (keep hb R6.out)
    have R7 := Lib.hid (keep hb R7.out)
    have K0 := Lib.hid (K0.out.below hb)
    have K1 := Lib.hid (K1.out.below hb)
    have K2 := Lib.hid h2
    clear h2
    clear hb
    go_upto_region 3 with fail
    generalize hW : World.alloc _ _ = V2
    obtain ⟨hb, hsz, R8⟩ := A1 hW
    replace hB := bstep hB hb
    have R6 := Lib.hid (keep hb R6.out)
    have R7 := Lib.hid (keep hb R7.out)
    have K0 := Lib.hid (K0.out.below hb)
    have K1 := Lib.hid (K1.out.below hb)
    have K2 := Lib.hid (K2.out.below hb)
    clear hb
    have R8 := Lib.hid R8
    clear hW hsz
    go_wp2_with fail
    exact bodyPost_ret (results_tmp2 rfl _ _ _) rfl ⟨rfl, hB⟩
  · simp only [Bool.and_self, if_true] at *
    have H0 := Lib.hid H0
    go_enter Tryz.func31, Tryz.ntmps31
    go_wp2_with fail
    generalize hW : ((World.alloc w _).alloc _).alloc _ = W
    obtain ⟨hB, hsz, R1, R2, R3⟩ := A3 hW
    have R1 := Lib.hid R1
    have R2 := Lib.hid R2
    have R3 := Lib.hid R3
    clear hW hsz
    refine (H0.out _).mono ?_
    rintro e w1 ⟨u, v, rfl, h0, h1, hb⟩
    replace hB := bstep hB hb
    have R3 := Lib.hid (keep hb R3.out)
    have K0 := Lib.hid h0
    clear h0
    have K1 := Lib.hid h1
    clear h1
    clear hb
    go_upto_region 2 with fail
    generalize hW : (World.alloc _ _).alloc _ = V
    obtain ⟨hb, hsz, R6, R7⟩ := A2 hW
    replace hB := bstep hB hb
    have R3 := Lib.hid (keep hb R3.out)
    have K0 := Lib.hid (K0.out.below hb)
    have K1 := Lib.hid (K1.out.below hb)
    clear hb
    have R6 := Lib.hid R6
    have R7 := Lib.hid R7
    clear hW hsz
    obtain ⟨R3c0, R3c1, R3c2, R3f0, R3f1, R3f2⟩ := row3 R3.out
    go_wp2_with fail
    clear R3c0 R3c1 R3c2 R3f0 R3f1 R3f2
    refine (H1.out _).mono ?_
    rintro e w2 ⟨y, rfl, h2, hb⟩
    replace hB := bstep hB hb
    have R6 := Lib.hid (keep hb R6.out)
    have R7 := Lib.hid (keep hb R7.out)
    have K0 := Lib.hid (K0.out.below hb)
    have K1 := Lib.hid (K1.out.below hb)
    have K2 := Lib.hid h2
    clear h2
    clear hb
    go_upto_region 3 with fail
    generalize hW : World.alloc _ _ = V2
    obtain ⟨hb, hsz, R8⟩ := A1 hW
    replace hB := bstep hB hb
    have R6 := Lib.hid (keep hb R6.out)
    have R7 := Lib.hid (keep hb R7.out)
    have K0 := Lib.hid (K0.out.below hb)
    have K1 := Lib.hid (K1.out.below hb)
    have K2 := Lib.hid (K2.out.below hb)
    clear hb
    have R8 := Lib.hid R8
    clear hW hsz
    obtain ⟨R6c0, R6c1, R6c2, R6c3, R6c4, R6c5, R6c6, R6c7, R6c8, R6f0, R6f1, R6f2, R6f3, R6f4, R6f5, R6f6, R6f7, R6f8⟩ := row9 R6.out
    obtain ⟨R7c0, R7c1, R7c2, R7c3, R7c4, R7c5, R7c6, R7c7, R7c8, R7f0, R7f1, R7f2, R7f3, R7f4, R7f5, R7f6, R7f7, R7f8⟩ := row9 R7.out
    obtain ⟨R8c0, R8c1, R8c2, R8c3, R8c4, R8c5, R8c6, R8c7, R8c8, R8f0, R8f1, R8f2, R8f3, R8f4, R8f5, R8f6, R8f7, R8f8⟩ := row9 R8.out
    go_wp2_with fail
    refine (H2.out _ _ _ _ K0.out K1.out K2.out).mono ?_
    rintro e w3 ⟨p, d, rfl, h3, hb⟩
    replace hB := bstep hB hb
    have K3 := Lib.hid h3
    clear h3
    clear hb
    go_wp2_with fail
    refine (H3.out _ _ _ K3.out).mono ?_
    rintro e w4 ⟨rfl, hb⟩
    replace hB := bstep hB hb
    clear hb
    go_wp2_with fail
    exact bodyPost_ret (results_tmp2 rfl _ _ _) rfl ⟨rfl, hB⟩
end Go.Proofs.YtgbabmkclojgeaaGreatDoor
