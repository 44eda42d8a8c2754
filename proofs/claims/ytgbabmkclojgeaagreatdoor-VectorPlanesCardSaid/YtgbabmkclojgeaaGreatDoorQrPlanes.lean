/- The reference of layer 11: Side, Cut, Through, Crossing. -/
import Derived.Test.YtgbabmkclojgeaaGreatDoorQqPlanes
import Derived.Test.YtgbabmkclojgeaaGreatDoorQpPlanes
namespace Go.Proofs.YtgbabmkclojgeaaGreatDoor
open Go.RowKit Go.Shelf Go.Sort

attribute [local go_sem] Oper.semAt_some

theorem hgt_I (n : V3) (c : Rat) (a : V3) : dotI n a - c = hgt n c a := by rw [dotI_eq]; rfl
theorem r11_Height (n : V3) (c : Rat) (a : V3) (sn : VS) (p d : Sl) (sa : VS) (w : World) (hn : RV w sn n) (hc : RQ w p d c) (ha : RV w sa a) (zn : SzV 100000 n) (zc : Sz 100000 c) (za : SzV 100000 a) :
    Calls Tryz.prog 94 #[plW (sgB (n).x.num) (sgB (n).y.num) (sgB (n).z.num) (sgB (c).num) sn p d, vW (sgB (a).x.num) (sgB (a).y.num) (sgB (a).z.num) sa] w fun e w' => ∃ p d : Sl, e = .returned (qW (sgB (hgt n c a).num) p d) ∧ RQ w' p d (hgt n c a) ∧ Below w.heap.size w w' := by
  have h := r11_Height_I n c a sn p d sa w hn hc ha zn zc za
  rwa [hgt_I] at h
theorem cmp_sgn (x : Rat) : cmpQ x 0 = x.num.sign := by
  unfold cmpQ cmpI
  rw [show (0 : Rat).num = 0 from rfl, show (0 : Rat).den = 1 from rfl]
  simp only [Int.zero_mul, Int.natCast_one, Int.mul_one]
  rcases Int.lt_trichotomy x.num 0 with h | h | h
  · rw [if_pos h, Int.sign_eq_neg_one_of_neg h]
  · rw [h]; rfl
  · rw [if_neg (by omega), if_pos h, Int.sign_eq_one_of_pos h]


theorem size_set (w : World) (p : Addr) (v : Value) : (w.setCell p v).heap.size = w.heap.size := by simp [World.setCell]

theorem endN {V Y : World} (hv : Below V.heap.size V Y) (o : Obj) : (Y.alloc o).heap[Y.heap.size]? = some o ∧ Below V.heap.size V (Y.alloc o) ∧ ∀ s a, RV Y s a → RV (Y.alloc o) s a :=
  ⟨heap_alloc_new _ _, bstep hv (A1 rfl).1, fun _ _ k => k.below (A1 rfl).1⟩
theorem end9 {V Y : World} {r : Nat} {x0 : Bool} {x1 x2 x3 x4 x5 x6 x7 x8 : Value} {t : TypeId} (hv : Below V.heap.size V Y) (hr : Y.heap[r]? = some (.cells #[.bool x0, x1, x2, x3, x4, x5, x6, x7, x8] t (0, 0))) (hle : V.heap.size ≤ r) (u0 : Bool) (u1 u2 u3 u4 u5 u6 u7 u8 : Value) :
    ((((((((((Y.setCell ⟨r, 0, none⟩ (.bool u0)).setCell ⟨r, 1, none⟩ u1).setCell ⟨r, 2, none⟩ u2).setCell ⟨r, 3, none⟩ u3).setCell ⟨r, 4, none⟩ u4).setCell ⟨r, 5, none⟩ u5).setCell ⟨r, 6, none⟩ u6).setCell ⟨r, 7, none⟩ u7).setCell ⟨r, 8, none⟩ u8)).heap[r]? = some (.cells #[.bool u0, u1, u2, u3, u4, u5, u6, u7, u8] t (0, 0)) ∧ Below V.heap.size V ((((((((((Y.setCell ⟨r, 0, none⟩ (.bool u0)).setCell ⟨r, 1, none⟩ u1).setCell ⟨r, 2, none⟩ u2).setCell ⟨r, 3, none⟩ u3).setCell ⟨r, 4, none⟩ u4).setCell ⟨r, 5, none⟩ u5).setCell ⟨r, 6, none⟩ u6).setCell ⟨r, 7, none⟩ u7).setCell ⟨r, 8, none⟩ u8)) ∧ ∀ s a, RV Y s a → RV ((((((((((Y.setCell ⟨r, 0, none⟩ (.bool u0)).setCell ⟨r, 1, none⟩ u1).setCell ⟨r, 2, none⟩ u2).setCell ⟨r, 3, none⟩ u3).setCell ⟨r, 4, none⟩ u4).setCell ⟨r, 5, none⟩ u5).setCell ⟨r, 6, none⟩ u6).setCell ⟨r, 7, none⟩ u7).setCell ⟨r, 8, none⟩ u8)) s a :=
  ⟨store9 hr _ _ _ _ _ _ _ _ _, store9_below hv hle _ _ _ _ _ _ _ _ _, fun _ _ k => k.store9 hr⟩
theorem endA {V Y : World} {a b d e : Value} {g h : Bool} {t : TypeId} (hv : Below V.heap.size V Y) : ((Y.alloc (.cells #[.bool g, a, b] t (0, 0))).alloc (.cells #[.bool h, d, e] t (0, 0))).heap[Y.heap.size]? = some (.cells #[.bool g, a, b] t (0, 0)) ∧ ((Y.alloc (.cells #[.bool g, a, b] t (0, 0))).alloc (.cells #[.bool h, d, e] t (0, 0))).heap[Y.heap.size + 1]? = some (.cells #[.bool h, d, e] t (0, 0)) ∧
    Below V.heap.size V ((Y.alloc (.cells #[.bool g, a, b] t (0, 0))).alloc (.cells #[.bool h, d, e] t (0, 0))) ∧ ∀ p d' x, RQ Y p d' x → RQ ((Y.alloc (.cells #[.bool g, a, b] t (0, 0))).alloc (.cells #[.bool h, d, e] t (0, 0))) p d' x :=
  ⟨two_row, two_row', bstep (bstep hv (A1 rfl).1) (A1 rfl).1, fun _ _ _ k => (k.below (A1 rfl).1).below (A1 rfl).1⟩
theorem endB {V Y : World} {r : Nat} {x0 : Bool} {x1 x2 : Value} {t : TypeId} (hv : Below V.heap.size V Y) (hr : Y.heap[r]? = some (.cells #[.bool x0, x1, x2] t (0, 0))) (hle : V.heap.size ≤ r) (a : Bool) (b c : Value) (v : Obj) :
    ((((Y.setCell ⟨r, 0, none⟩ (.bool a)).setCell ⟨r, 1, none⟩ b).setCell ⟨r, 2, none⟩ c).alloc v).heap[r]? = some (.cells #[.bool a, b, c] t (0, 0)) ∧ ((((Y.setCell ⟨r, 0, none⟩ (.bool a)).setCell ⟨r, 1, none⟩ b).setCell ⟨r, 2, none⟩ c).alloc v).heap[Y.heap.size]? = some v ∧
    Below V.heap.size V ((((Y.setCell ⟨r, 0, none⟩ (.bool a)).setCell ⟨r, 1, none⟩ b).setCell ⟨r, 2, none⟩ c).alloc v) ∧ ∀ p d x, RQ Y p d x → RQ ((((Y.setCell ⟨r, 0, none⟩ (.bool a)).setCell ⟨r, 1, none⟩ b).setCell ⟨r, 2, none⟩ c).alloc v) p d x := by
  refine ⟨old1 (store3 hr _ _ _), ?_, bstep (store3_below hv hle _ _ _) (A1 rfl).1, fun _ _ _ k => (k.store3 hr).below (A1 rfl).1⟩
  have h := heap_alloc_new (((Y.setCell ⟨r, 0, none⟩ (.bool a)).setCell ⟨r, 1, none⟩ b).setCell ⟨r, 2, none⟩ c) v
  rwa [size_set, size_set, size_set] at h
theorem endC {V Y : World} {r k : Nat} {x0 y0 : Bool} {x1 x2 y1 y2 : Value} {t t' : TypeId} (hv : Below V.heap.size V Y) (hr : Y.heap[r]? = some (.cells #[.bool x0, x1, x2] t (0, 0))) (hk : Y.heap[k]? = some (.cells #[.bool y0, y1, y2] t' (0, 0))) (hle : V.heap.size ≤ r) (hle' : V.heap.size ≤ k) (hne : r ≠ k) (a d : Bool) (b c e f : Value) :
    ((((((Y.setCell ⟨r, 0, none⟩ (.bool a)).setCell ⟨r, 1, none⟩ b).setCell ⟨r, 2, none⟩ c).setCell ⟨k, 0, none⟩ (.bool d)).setCell ⟨k, 1, none⟩ e).setCell ⟨k, 2, none⟩ f).heap[r]? = some (.cells #[.bool a, b, c] t (0, 0)) ∧ ((((((Y.setCell ⟨r, 0, none⟩ (.bool a)).setCell ⟨r, 1, none⟩ b).setCell ⟨r, 2, none⟩ c).setCell ⟨k, 0, none⟩ (.bool d)).setCell ⟨k, 1, none⟩ e).setCell ⟨k, 2, none⟩ f).heap[k]? = some (.cells #[.bool d, e, f] t' (0, 0)) ∧
    Below V.heap.size V ((((((Y.setCell ⟨r, 0, none⟩ (.bool a)).setCell ⟨r, 1, none⟩ b).setCell ⟨r, 2, none⟩ c).setCell ⟨k, 0, none⟩ (.bool d)).setCell ⟨k, 1, none⟩ e).setCell ⟨k, 2, none⟩ f) ∧ ∀ p d' x, RQ Y p d' x → RQ ((((((Y.setCell ⟨r, 0, none⟩ (.bool a)).setCell ⟨r, 1, none⟩ b).setCell ⟨r, 2, none⟩ c).setCell ⟨k, 0, none⟩ (.bool d)).setCell ⟨k, 1, none⟩ e).setCell ⟨k, 2, none⟩ f) p d' x := by
  have h1 := store3 hr (.bool a) b c
  have h2 := store3_other (Ne.symm hne) hk (.bool a) b c
  exact ⟨store3_other hne h1 _ _ _, store3 h2 _ _ _, store3_below (store3_below hv hle _ _ _) hle' _ _ _, fun _ _ _ q => (q.store3 hr).store3 h2⟩


set_option maxRecDepth 100000 in
set_option maxHeartbeats 16000000 in
theorem r11_Side (s : ByteArray × ByteArray × ByteArray) (c : ByteArray) (t : ByteArray × ByteArray × ByteArray) (w : World) (hs : Sh20 s) (hc : c.size ≤ 20) (ht : Sh20 t) :
    Calls Tryz.prog 35 #[tpW s c, txW t] w fun e w' => e = .returned (.tuple #[.int .i64 (sres (pokB s c && vvB t) (cmpQ (hgt (vvX s) (rvX c) (vvX t)) 0)), .int .i64 (eres (pokB s c && vvB t))]) ∧ Below w.heap.size w w' := by
  have H0 := Lib.hid (fun W => r11_ReadPlane s c W (sh20_6 hs) (Nat.le_trans hc (by decide)))
  have H1 := Lib.hid (fun W => r11_From t W (sh20_6 ht))
  have zn := szV_text hs
  have zc : Sz 21 (rvX c) := sz_rvX hc (by decide)
  have za := szV_text ht
  have H2 := Lib.hid (fun W u p d v (h0 : RV W u (vvX s)) (h1 : RQ W p d (rvX c)) (h2 : RV W v (vvX t)) => r11_Height (vvX s) (rvX c) (vvX t) u p d v W h0 h1 h2 (zn.mono (by decide)) (zc.mono (by decide)) (za.mono (by decide)))
  have H3 := Lib.hid (fun W p d (h : RQ W p d (hgt (vvX s) (rvX c) (vvX t))) => r3_Sign _ p d W h)
  rw [cmp_sgn]
  unfold txW tpW at *
  clear zn zc za hs hc ht
  generalize hgt (vvX s) (rvX c) (vvX t) = q at *
  generalize q.num.sign = g at *
  generalize vvX s = n at *
  generalize rvX c = m at *
  generalize vvX t = a at *
  generalize pokB s c = k at *
  generalize vvB t = j at *
  obtain ⟨s0, s1, s2⟩ := s
  obtain ⟨t0, t1, t2⟩ := t
  simp only at *
  unfold sres eres
  generalize sgB n.x.num = nx_ at *
  generalize sgB n.y.num = ny_ at *
  generalize sgB n.z.num = nz_ at *
  generalize sgB a.x.num = ax_ at *
  generalize sgB a.y.num = ay_ at *
  generalize sgB a.z.num = az_ at *
  generalize sgB m.num = m0_ at *
  generalize sgB q.num = q0_ at *
  cases k <;> cases j
  · simp only [Bool.and_self, Bool.false_eq_true, if_false] at *
    go_enter Tryz.func35, Tryz.ntmps35
    go_wp2_with fail
    generalize hW : (World.alloc w _).alloc _ = W
    obtain ⟨hB, hsz, R2, R3⟩ := A2 hW
    have R2 := Lib.hid R2
    have R3 := Lib.hid R3
    clear hW hsz
    refine (H0.out _).mono ?_
    rintro e w1 ⟨u, p, d, rfl, h0, h1, hb⟩
    replace hB := bstep hB hb
    have R3 := Lib.hid (keep hb R3.out)
    have K0 := Lib.hid h0
    clear h0
    have K1 := Lib.hid h1
    clear h1
    clear hb
    go_upto_region 2 with fail
    generalize hW : World.alloc _ _ = V
    obtain ⟨hb, hsz, R6⟩ := A1 hW
    replace hB := bstep hB hb
    have R3 := Lib.hid (keep hb R3.out)
    have K0 := Lib.hid (K0.out.below hb)
    have K1 := Lib.hid (K1.out.below hb)
    clear hb
    have R6 := Lib.hid R6
    clear hW hsz
    obtain ⟨R3c0, R3c1, R3c2, R3f0, R3f1, R3f2⟩ := row3 R3.out
    go_wp2_with fail
    clear R3c0 R3c1 R3c2 R3f0 R3f1 R3f2
    refine (H1.out _).mono ?_
    rintro e w2 ⟨v, rfl, h2, hb⟩
    replace hB := bstep hB hb
    have R6 := Lib.hid (keep hb R6.out)
    have K0 := Lib.hid (K0.out.below hb)
    have K1 := Lib.hid (K1.out.below hb)
    have K2 := Lib.hid h2
    clear h2
    clear hb
    go_upto_region 3 with fail
    generalize hW : World.alloc _ _ = V2
    obtain ⟨hb, hsz, R8⟩ := A1 hW
    replace hB := bstep hB hb
    have R6 := Lib.hid (keep hb R6.out)
    have K0 := Lib.hid (K0.out.below hb)
    have K1 := Lib.hid (K1.out.below hb)
    have K2 := Lib.hid (K2.out.below hb)
    clear hb
    have R8 := Lib.hid R8
    clear hW hsz
    go_wp2_with fail
    exact bodyPost_ret (results_tmp2 rfl _ _ _) rfl ⟨rfl, hB⟩
  · simp only [Bool.false_and, Bool.false_eq_true, if_false] at *
    go_enter Tryz.func35, Tryz.ntmps35
    go_wp2_with fail
    generalize hW : (World.alloc w _).alloc _ = W
    obtain ⟨hB, hsz, R2, R3⟩ := A2 hW
    have R2 := Lib.hid R2
    have R3 := Lib.hid R3
    clear hW hsz
    refine (H0.out _).mono ?_
    rintro e w1 ⟨u, p, d, rfl, h0, h1, hb⟩
    replace hB := bstep hB hb
    have R3 := Lib.hid (keep hb R3.out)
    have K0 := Lib.hid h0
    clear h0
    have K1 := Lib.hid h1
    clear h1
    clear hb
    go_upto_region 2 with fail
    generalize hW : World.alloc _ _ = V
    obtain ⟨hb, hsz, R6⟩ := A1 hW
    replace hB := bstep hB hb
    have R3 := Lib.hid (keep hb R3.out)
    have K0 := Lib.hid (K0.out.below hb)
    have K1 := Lib.hid (K1.out.below hb)
    clear hb
    have R6 := Lib.hid R6
    clear hW hsz
    obtain ⟨R3c0, R3c1, R3c2, R3f0, R3f1, R3f2⟩ := row3 R3.out
    go_wp2_with fail
    clear R3c0 R3c1 R3c2 R3f0 R3f1 R3f2
    refine (H1.out _).mono ?_
    rintro e w2 ⟨v, rfl, h2, hb⟩
    replace hB := bstep hB hb
    have R6 := Lib.hid (keep hb R6.out)
    have K0 := Lib.hid (K0.out.below hb)
    have K1 := Lib.hid (K1.out.below hb)
    have K2 := Lib.hid h2
    clear h2
    clear hb
    go_upto_region 3 with fail
    generalize hW : World.alloc _ _ = V2
    obtain ⟨hb, hsz, R8⟩ := A1 hW
    replace hB := bstep hB hb
    have R6 := Lib.hid (keep hb R6.out)
    have K0 := Lib.hid (K0.out.below hb)
    have K1 := Lib.hid (K1.out.below hb)
    have K2 := Lib.hid (K2.out.below hb)
    clear hb
    have R8 := Lib.hid R8
    clear hW hsz
    go_wp2_with fail
    exact bodyPost_ret (results_tmp2 rfl _ _ _) rfl ⟨rfl, hB⟩
  · simp only [Bool.and_false, Bool.false_eq_true, if_false] at *
    go_enter Tryz.func35, Tryz.ntmps35
    go_wp2_with fail
    generalize hW : (World.alloc w _).alloc _ = W
    obtain ⟨hB, hsz, R2, R3⟩ := A2 hW
    have R2 := Lib.hid R2
    have R3 := Lib.hid R3
    clear hW hsz
    refine (H0.out _).mono ?_
    rintro e w1 ⟨u, p, d, rfl, h0, h1, hb⟩
    replace hB := bstep hB hb
    have R3 := Lib.hid (keep hb R3.out)
    have K0 := Lib.hid h0
    clear h0
    have K1 := Lib.hid h1
    clear h1
    clear hb
    go_upto_region 2 with fail
    generalize hW : World.alloc _ _ = V
    obtain ⟨hb, hsz, R6⟩ := A1 hW
    replace hB := bstep hB hb
    have R3 := Lib.hid (keep hb R3.out)
    have K0 := Lib.hid (K0.out.below hb)
    have K1 := Lib.hid (K1.out.below hb)
    clear hb
    have R6 := Lib.hid R6
    clear hW hsz
    obtain ⟨R3c0, R3c1, R3c2, R3f0, R3f1, R3f2⟩ := row3 R3.out
    go_wp2_with fail
    clear R3c0 R3c1 R3c2 R3f0 R3f1 R3f2
    refine (H1.out _).mono ?_
    rintro e w2 ⟨v, rfl, h2, hb⟩
    replace hB := bstep hB hb
    have R6 := Lib.hid (keep hb R6.out)
    have K0 := Lib.hid (K0.out.below hb)
    have K1 := Lib.hid (K1.out.below hb)
    have K2 := Lib.hid h2
    clear h2
    clear hb
    go_upto_region 3 with fail
    generalize hW : World.alloc _ _ = V2
    obtain ⟨hb, hsz, R8⟩ := A1 hW
    replace hB := bstep hB hb
    have R6 := Lib.hid (keep hb R6.out)
    have K0 := Lib.hid (K0.out.below hb)
    have K1 := Lib.hid (K1.out.below hb)
    have K2 := Lib.hid (K2.out.below hb)
    clear hb
    have R8 := Lib.hid R8
    clear hW hsz
    go_wp2_with fail
    exact bodyPost_ret (results_tmp2 rfl _ _ _) rfl ⟨rfl, hB⟩
  · simp only [Bool.and_self, if_true] at *
    go_enter Tryz.func35, Tryz.ntmps35
    go_wp2_with fail
    generalize hW : (World.alloc w _).alloc _ = W
    obtain ⟨hB, hsz, R2, R3⟩ := A2 hW
    have R2 := Lib.hid R2
    have R3 := Lib.hid R3
    clear hW hsz
    refine (H0.out _).mono ?_
    rintro e w1 ⟨u, p, d, rfl, h0, h1, hb⟩
    replace hB := bstep hB hb
    have R3 := Lib.hid (keep hb R3.out)
    have K0 := Lib.hid h0
    clear h0
    have K1 := Lib.hid h1
    clear h1
    clear hb
    go_upto_region 2 with fail
    generalize hW : World.alloc _ _ = V
    obtain ⟨hb, hsz, R6⟩ := A1 hW
    replace hB := bstep hB hb
    have R3 := Lib.hid (keep hb R3.out)
    have K0 := Lib.hid (K0.out.below hb)
    have K1 := Lib.hid (K1.out.below hb)
    clear hb
    have R6 := Lib.hid R6
    clear hW hsz
    obtain ⟨R3c0, R3c1, R3c2, R3f0, R3f1, R3f2⟩ := row3 R3.out
    go_wp2_with fail
    clear R3c0 R3c1 R3c2 R3f0 R3f1 R3f2
    refine (H1.out _).mono ?_
    rintro e w2 ⟨v, rfl, h2, hb⟩
    replace hB := bstep hB hb
    have R6 := Lib.hid (keep hb R6.out)
    have K0 := Lib.hid (K0.out.below hb)
    have K1 := Lib.hid (K1.out.below hb)
    have K2 := Lib.hid h2
    clear h2
    clear hb
    go_upto_region 3 with fail
    generalize hW : World.alloc _ _ = V2
    obtain ⟨hb, hsz, R8⟩ := A1 hW
    replace hB := bstep hB hb
    have R6 := Lib.hid (keep hb R6.out)
    have K0 := Lib.hid (K0.out.below hb)
    have K1 := Lib.hid (K1.out.below hb)
    have K2 := Lib.hid (K2.out.below hb)
    clear hb
    have R8 := Lib.hid R8
    clear hW hsz
    obtain ⟨qR6_0, qR6_1, qR6_2, qR6_3, qR6_4, qR6_5, qR6_6, qR6_7, qR6_8, qR6_9, qR6_10, qR6_11⟩ := rowc12 R6.out
    obtain ⟨qR8_0, qR8_1, qR8_2, qR8_3, qR8_4, qR8_5, qR8_6, qR8_7, qR8_8⟩ := rowc9 R8.out
    go_wp2_with fail
    clear qR6_0 qR6_1 qR6_2 qR6_3 qR6_4 qR6_5 qR6_6 qR6_7 qR6_8 qR6_9 qR6_10 qR6_11
    clear qR8_0 qR8_1 qR8_2 qR8_3 qR8_4 qR8_5 qR8_6 qR8_7 qR8_8
    refine (H2.out _ _ _ _ _ K0.out K1.out K2.out).mono ?_
    rintro e w3 ⟨p_, d_, rfl, h3, hb⟩
    replace hB := bstep hB hb
    have K3 := Lib.hid h3
    clear h3
    clear hb
    go_wp2_with fail
    refine (H3.out _ _ _ K3.out).mono ?_
    rintro e w4 ⟨rfl, hb⟩
    replace hB := bstep hB hb
    clear hb
    go_wp2_with fail
    exact bodyPost_ret (results_tmp2 rfl _ _ _) rfl ⟨rfl, hB⟩

set_option maxRecDepth 100000 in
set_option maxHeartbeats 16000000 in
theorem r11_Cut (n : V3) (c : Rat) (a b : V3) (sn : VS) (pc dc : Sl) (sa sb : VS) (w : World) (hn : RV w sn n) (hc : RQ w pc dc c) (ha : RV w sa a) (hb : RV w sb b) (zn : SzV 21 n) (zc : Sz 21 c) (za : SzV 21 a) (zb : SzV 21 b) (hne : hgt n c a - hgt n c b ≠ 0) :
    Calls Tryz.prog 97 #[plW (sgB (n).x.num) (sgB (n).y.num) (sgB (n).z.num) (sgB (c).num) sn pc dc, vW (sgB (a).x.num) (sgB (a).y.num) (sgB (a).z.num) sa, vW (sgB (b).x.num) (sgB (b).y.num) (sgB (b).z.num) sb] w fun e w' => ∃ u : VS, e = .returned (vW (sgB (crs n c a b).x.num) (sgB (crs n c a b).y.num) (sgB (crs n c a b).z.num) u) ∧ RV w' u (crs n c a b) ∧ Below w.heap.size w w' := by
  have zh := sz_hgt zn zc za
  have zk := sz_hgt zn zc zb
  have zs := sz_sub zh zk
  have zd := sz_div zh zs hne
  have zm := szV_sub zb za
  have zt := szV_scale zm zd
  have H0 := Lib.hid (fun W (hb' : Below w.heap.size w W) => r11_Height n c a sn pc dc sa W (hn.below hb') (hc.below hb') (ha.below hb') (zn.mono (by decide)) (zc.mono (by decide)) (za.mono (by decide)))
  have H1 := Lib.hid (fun W (hb' : Below w.heap.size w W) => r11_Height n c b sn pc dc sb W (hn.below hb') (hc.below hb') (hb.below hb') (zn.mono (by decide)) (zc.mono (by decide)) (zb.mono (by decide)))
  have H2 := Lib.hid (fun W (hb' : Below w.heap.size w W) => r11_Minus b a sb sa W (hb.below hb') (ha.below hb') (zb.mono (by decide)) (za.mono (by decide)))
  have H3 := Lib.hid (fun W (_ : Below w.heap.size w W) p d s t (k1 : RQ W p d (hgt n c a)) (k2 : RQ W s t (hgt n c b)) => r3_Sub _ _ p d s t W k1 k2 (zh.mono (by decide)) (zk.mono (by decide)))
  have H4 := Lib.hid (fun W (_ : Below w.heap.size w W) p d s t (k1 : RQ W p d (hgt n c a)) (k2 : RQ W s t (hgt n c a - hgt n c b)) => r3_Div _ _ p d s t W k1 k2 (zh.mono (by decide)) (zs.mono (by decide)) hne)
  have H5 := Lib.hid (fun W (_ : Below w.heap.size w W) u p d (k1 : RV W u (subV b a)) (k2 : RQ W p d (hgt n c a / (hgt n c a - hgt n c b))) => r11_Times _ _ u p d W k1 k2 (zm.mono (by decide)) (zd.mono (by decide)))
  have H6 := Lib.hid (fun W (hb' : Below w.heap.size w W) u (k1 : RV W u (scaleV (subV b a) (hgt n c a / (hgt n c a - hgt n c b)))) => r11_Plus a _ sa u W (ha.below hb') k1 (za.mono (by decide)) (zt.mono (by decide)))
  rw [show addV a (scaleV (subV b a) (hgt n c a / (hgt n c a - hgt n c b))) = crs n c a b from rfl] at H6
  clear zn zc za zb zh zk zs zd zm zt hn hc ha hb hne
  generalize crs n c a b = z at *
  generalize scaleV (subV b a) (hgt n c a / (hgt n c a - hgt n c b)) = y at *
  generalize hgt n c a / (hgt n c a - hgt n c b) = q at *
  generalize hgt n c a - hgt n c b = r at *
  generalize hgt n c a = g at *
  generalize hgt n c b = h at *
  generalize subV b a = m at *
  generalize sgB n.x.num = nx_ at *
  generalize sgB n.y.num = ny_ at *
  generalize sgB n.z.num = nz_ at *
  generalize sgB a.x.num = ax_ at *
  generalize sgB a.y.num = ay_ at *
  generalize sgB a.z.num = az_ at *
  generalize sgB b.x.num = bx_ at *
  generalize sgB b.y.num = by_ at *
  generalize sgB b.z.num = bz_ at *
  generalize sgB z.x.num = zx_ at *
  generalize sgB z.y.num = zy_ at *
  generalize sgB z.z.num = zz_ at *
  generalize sgB y.x.num = yx_ at *
  generalize sgB y.y.num = yy_ at *
  generalize sgB y.z.num = yz_ at *
  generalize sgB m.x.num = mx_ at *
  generalize sgB m.y.num = my_ at *
  generalize sgB m.z.num = mz_ at *
  generalize sgB c.num = c0_ at *
  generalize sgB q.num = q0_ at *
  generalize sgB r.num = r0_ at *
  generalize sgB g.num = g0_ at *
  generalize sgB h.num = h0_ at *
  go_enter Tryz.func97, Tryz.ntmps97
  go_upto_region 1 with fail
  generalize hW : (((World.alloc w _).alloc _).alloc _).alloc _ = W
  obtain ⟨hB, hsz, R3, R4, R5, R6⟩ := A4 hW
  have R3 := Lib.hid R3
  have R4 := Lib.hid R4
  have R5 := Lib.hid R5
  have R6 := Lib.hid R6
  clear hW hsz
  go_cut [7, 8] (fun x y wc => ∃ (i j : Nat) (p1 d1 p2 d2 : Sl), x = .pointer (some ⟨i, 0, none⟩) ∧ y = .pointer (some ⟨j, 0, none⟩) ∧ Hid (wc.heap[i]? = some (.cells #[.bool g0_, .slice p1.A p1.n p1.c, .slice d1.A d1.n d1.c] 40 (0, 0))) ∧ Hid (wc.heap[j]? = some (.cells #[.bool h0_, .slice p2.A p2.n p2.c, .slice d2.A d2.n d2.c] 40 (0, 0))) ∧ Hid (RQ wc p1 d1 g) ∧ Hid (RQ wc p2 d2 h) ∧ Hid (Below W.heap.size W wc))
  case first =>
    have LR3 := fun (w' : World) (h : Ap W.heap.size W.heap.size W w') => rowc12 (h.rowV R3.out)
    have LR4 := fun (w' : World) (h : Ap W.heap.size W.heap.size W w') => rowc9 (h.rowV R4.out)
    have LR5 := fun (w' : World) (h : Ap W.heap.size W.heap.size W w') => rowc9 (h.rowV R5.out)
    have U0 := fun (Y : World) (o' : Obj) => (row3 (two_row (Y := Y) (o := .cells #[.bool false, .slice none 0 0, .slice none 0 0] 40 (0, 0)) (o' := o'))).1
    have U1 := fun (Y : World) (o' : Obj) => (row3 (two_row (Y := Y) (o := .cells #[.bool false, .slice none 0 0, .slice none 0 0] 40 (0, 0)) (o' := o'))).2.1
    have U2 := fun (Y : World) (o' : Obj) => (row3 (two_row (Y := Y) (o := .cells #[.bool false, .slice none 0 0, .slice none 0 0] 40 (0, 0)) (o' := o'))).2.2.1
    have U3 := fun (Y : World) (o' : Obj) => (row3 (two_row (Y := Y) (o := .cells #[.bool false, .slice none 0 0, .slice none 0 0] 40 (0, 0)) (o' := o'))).2.2.2.1
    have U4 := fun (Y : World) (o' : Obj) => (row3 (two_row (Y := Y) (o := .cells #[.bool false, .slice none 0 0, .slice none 0 0] 40 (0, 0)) (o' := o'))).2.2.2.2.1
    have U5 := fun (Y : World) (o' : Obj) => (row3 (two_row (Y := Y) (o := .cells #[.bool false, .slice none 0 0, .slice none 0 0] 40 (0, 0)) (o' := o'))).2.2.2.2.2
    have Ub0 := fun (Y : World) (o' : Obj) => (row3 (two_row' (Y := Y) (o := o') (o' := .cells #[.bool false, .slice none 0 0, .slice none 0 0] 40 (0, 0)))).1
    have Ub1 := fun (Y : World) (o' : Obj) => (row3 (two_row' (Y := Y) (o := o') (o' := .cells #[.bool false, .slice none 0 0, .slice none 0 0] 40 (0, 0)))).2.1
    have Ub2 := fun (Y : World) (o' : Obj) => (row3 (two_row' (Y := Y) (o := o') (o' := .cells #[.bool false, .slice none 0 0, .slice none 0 0] 40 (0, 0)))).2.2.1
    have Ub3 := fun (Y : World) (o' : Obj) => (row3 (two_row' (Y := Y) (o := o') (o' := .cells #[.bool false, .slice none 0 0, .slice none 0 0] 40 (0, 0)))).2.2.2.1
    have Ub4 := fun (Y : World) (o' : Obj) => (row3 (two_row' (Y := Y) (o := o') (o' := .cells #[.bool false, .slice none 0 0, .slice none 0 0] 40 (0, 0)))).2.2.2.2.1
    have Ub5 := fun (Y : World) (o' : Obj) => (row3 (two_row' (Y := Y) (o := o') (o' := .cells #[.bool false, .slice none 0 0, .slice none 0 0] 40 (0, 0)))).2.2.2.2.2
    have hvr := Below.refl W.heap.size W
    have hv0 := hvr.drew
    first
    | go_region_held3 (fun w' => Ap W.heap.size W.heap.size W w') (first | (with_reducible assumption) | (with_reducible exact Ap.refl _ _ _) | ((repeat (first | with_reducible assumption | with_reducible exact Ap.refl _ _ _ | with_reducible refine Ap.drew ?_ | with_reducible refine Ap.alloc ?_ | with_reducible refine Ap.set1 ?_ | with_reducible refine Ap.set2 ?_ | with_reducible refine Ap.setN (by first | with_reducible assumption | with_reducible exact Nat.le_refl _ | with_reducible exact Nat.le_add_right _ _ | with_reducible exact Nat.le_trans (by assumption) (Nat.le_add_right _ _)) ?_)); done))
        (first
          | (go_at_call 94; (with_reducible refine (H0.out _ (bstep hB (by first | with_reducible exact hv0 | with_reducible exact bstep hv0 (A1 rfl).1 | with_reducible exact (bstep hv0 (A1 rfl).1).drew | with_reducible exact (bstep hvr (A1 rfl).1).drew | with_reducible exact bstep (bstep hv0 (A1 rfl).1) (A1 rfl).1 | with_reducible exact (bstep (bstep hv0 (A1 rfl).1) (A1 rfl).1).drew | with_reducible exact (bstep (bstep hvr (A1 rfl).1) (A1 rfl).1).drew))).mono ?_); rintro e wq0 ⟨p_0, d_0, rfl, hk_0, hb⟩; have hv1 : Below W.heap.size W wq0 := (by first | with_reducible exact bstep (hv0) hb | with_reducible exact bstep (bstep hv0 (A1 rfl).1) hb | with_reducible exact bstep ((bstep hv0 (A1 rfl).1).drew) hb | with_reducible exact bstep ((bstep hvr (A1 rfl).1).drew) hb | with_reducible exact bstep (bstep (bstep hv0 (A1 rfl).1) (A1 rfl).1) hb | with_reducible exact bstep ((bstep (bstep hv0 (A1 rfl).1) (A1 rfl).1).drew) hb | with_reducible exact bstep ((bstep (bstep hvr (A1 rfl).1) (A1 rfl).1).drew) hb); have hs1 := Ap.of_below (g := W.heap.size) (h := W.heap.size) hv1; have sz1 := hv1.size; (first | ((first | (have RNp := two_new hb) | (have RNp := two_newD hb)); have RN0 : RowKit.Hid (wq0.heap[W.heap.size]? = some (.cells #[.bool false, .slice none 0 0, .slice none 0 0] 40 (0, 0))) := Lib.hid RNp.1; have RN0' : RowKit.Hid (wq0.heap[W.heap.size + 1]? = some (.cells #[.bool false, .slice none 0 0, .slice none 0 0] 40 (0, 0))) := Lib.hid RNp.2; clear RNp) | (have RN0 : RowKit.Hid (wq0.heap[W.heap.size]? = some (.cells #[.bool false, .slice none 0 0, .slice none 0 0] 40 (0, 0))) := Lib.hid (by first | exact one_new hb | exact one_newD hb)) | skip); (first | (have RNg := lt_of_row RN0.out; have RNh := Nat.ne_of_lt RNg; have RNi := Nat.ne_of_gt RNg) | skip); have K0 := Lib.hid hk_0; clear hk_0; clear hb)
          | (go_at_call 94; (with_reducible refine (H1.out _ (bstep hB (by first | with_reducible exact hv1 | with_reducible exact bstep hv1 (A1 rfl).1 | with_reducible exact (bstep hv1 (A1 rfl).1).drew | with_reducible exact (bstep hvr (A1 rfl).1).drew | with_reducible exact bstep (bstep hv1 (A1 rfl).1) (A1 rfl).1 | with_reducible exact (bstep (bstep hv1 (A1 rfl).1) (A1 rfl).1).drew | with_reducible exact (bstep (bstep hvr (A1 rfl).1) (A1 rfl).1).drew))).mono ?_); rintro e wq1 ⟨p_1, d_1, rfl, hk_1, hb⟩; have hv2 : Below W.heap.size W wq1 := (by first | with_reducible exact bstep (hv1) hb | with_reducible exact bstep (bstep hv1 (A1 rfl).1) hb | with_reducible exact bstep ((bstep hv1 (A1 rfl).1).drew) hb | with_reducible exact bstep ((bstep hvr (A1 rfl).1).drew) hb | with_reducible exact bstep (bstep (bstep hv1 (A1 rfl).1) (A1 rfl).1) hb | with_reducible exact bstep ((bstep (bstep hv1 (A1 rfl).1) (A1 rfl).1).drew) hb | with_reducible exact bstep ((bstep (bstep hvr (A1 rfl).1) (A1 rfl).1).drew) hb); have hs2 := Ap.of_below (g := W.heap.size) (h := W.heap.size) hv2; have sz2 := hv2.size; have K0 := Lib.hid (by first | with_reducible exact K0.out.below hb | with_reducible exact K0.out.drewR.below hb | with_reducible exact (K0.out.below (A1 rfl).1).below hb | with_reducible exact (K0.out.below (A1 rfl).1).drewR.below hb | with_reducible exact ((K0.out.below (A1 rfl).1).below (A1 rfl).1).below hb); (first | (with_reducible have RN0 := Lib.hid (keep hb RN0.out)) | (with_reducible have RN0 := Lib.hid (keep hb (old1 RN0.out))) | (with_reducible have RN0 := Lib.hid (keep hb (old1 (old1 RN0.out)))) | skip); (first | (with_reducible have RN0' := Lib.hid (keep hb RN0'.out)) | (with_reducible have RN0' := Lib.hid (keep hb (old1 RN0'.out))) | (with_reducible have RN0' := Lib.hid (keep hb (old1 (old1 RN0'.out)))) | skip); (first | ((first | (have RNp := two_new hb) | (have RNp := two_newD hb)); have RN1 : RowKit.Hid (wq1.heap[wq0.heap.size]? = some (.cells #[.bool false, .slice none 0 0, .slice none 0 0] 40 (0, 0))) := Lib.hid RNp.1; have RN1' : RowKit.Hid (wq1.heap[wq0.heap.size + 1]? = some (.cells #[.bool false, .slice none 0 0, .slice none 0 0] 40 (0, 0))) := Lib.hid RNp.2; clear RNp) | (have RN1 : RowKit.Hid (wq1.heap[wq0.heap.size]? = some (.cells #[.bool false, .slice none 0 0, .slice none 0 0] 40 (0, 0))) := Lib.hid (by first | exact one_new hb | exact one_newD hb)) | skip); (first | (have RNg := lt_of_row RN1.out; have RNh := Nat.ne_of_lt RNg; have RNi := Nat.ne_of_gt RNg) | skip); have K1 := Lib.hid hk_1; clear hk_1; (first | (have RNx := row3 RN0.out; obtain ⟨RNf00, RNf01, RNf02, RNf03, RNf04, RNf05⟩ := RNx) | skip); (first | (have RNy := fun o' => row3 (old1 (o' := o') RN0.out); have RNl := lt_of_row RN0.out; have RNm := Nat.ne_of_lt RNl; have RNn := Nat.ne_of_gt RNl; have RNf0A0 := fun o' => (RNy o').1; have RNf0A1 := fun o' => (RNy o').2.1; have RNf0A2 := fun o' => (RNy o').2.2.1; have RNf0A3 := fun o' => (RNy o').2.2.2.1; have RNf0A4 := fun o' => (RNy o').2.2.2.2.1; have RNf0A5 := fun o' => (RNy o').2.2.2.2.2; clear RNy) | skip); (first | (have RNx := row3 RN0'.out; obtain ⟨RNf0_0, RNf0_1, RNf0_2, RNf0_3, RNf0_4, RNf0_5⟩ := RNx) | skip); (first | (have RNy := fun o' => row3 (old1 (o' := o') RN0'.out); have RNl := lt_of_row RN0'.out; have RNm := Nat.ne_of_lt RNl; have RNn := Nat.ne_of_gt RNl; have RNf0_A0 := fun o' => (RNy o').1; have RNf0_A1 := fun o' => (RNy o').2.1; have RNf0_A2 := fun o' => (RNy o').2.2.1; have RNf0_A3 := fun o' => (RNy o').2.2.2.1; have RNf0_A4 := fun o' => (RNy o').2.2.2.2.1; have RNf0_A5 := fun o' => (RNy o').2.2.2.2.2; clear RNy) | skip); (first | (have RNx := row3 RN1.out; obtain ⟨RNf10, RNf11, RNf12, RNf13, RNf14, RNf15⟩ := RNx) | skip); (first | (have RNy := fun o' => row3 (old1 (o' := o') RN1.out); have RNl := lt_of_row RN1.out; have RNm := Nat.ne_of_lt RNl; have RNn := Nat.ne_of_gt RNl; have RNf1A0 := fun o' => (RNy o').1; have RNf1A1 := fun o' => (RNy o').2.1; have RNf1A2 := fun o' => (RNy o').2.2.1; have RNf1A3 := fun o' => (RNy o').2.2.2.1; have RNf1A4 := fun o' => (RNy o').2.2.2.2.1; have RNf1A5 := fun o' => (RNy o').2.2.2.2.2; clear RNy) | skip); (first | (have RNx := row3 RN1'.out; obtain ⟨RNf1_0, RNf1_1, RNf1_2, RNf1_3, RNf1_4, RNf1_5⟩ := RNx) | skip); (first | (have RNy := fun o' => row3 (old1 (o' := o') RN1'.out); have RNl := lt_of_row RN1'.out; have RNm := Nat.ne_of_lt RNl; have RNn := Nat.ne_of_gt RNl; have RNf1_A0 := fun o' => (RNy o').1; have RNf1_A1 := fun o' => (RNy o').2.1; have RNf1_A2 := fun o' => (RNy o').2.2.1; have RNf1_A3 := fun o' => (RNy o').2.2.2.1; have RNf1_A4 := fun o' => (RNy o').2.2.2.2.1; have RNf1_A5 := fun o' => (RNy o').2.2.2.2.2; clear RNy) | skip); (first | (have RNe := Nat.ne_of_lt (lt_of_row RN0.out); skip) | skip); clear hb))
    | fail
    all_goals
      go_wp2_with fail
      go_meet
      first
      | (have E := endA (Y := wq1) (g := g0_) (a := (.slice p_0.A p_0.n p_0.c)) (b := (.slice d_0.A d_0.n d_0.c)) (h := h0_) (d := (.slice p_1.A p_1.n p_1.c)) (e := (.slice d_1.A d_1.n d_1.c)) (t := 40) hv2; with_reducible exact ⟨_, _, _, _, _, _, rfl, rfl, Lib.hid E.1, Lib.hid E.2.1, Lib.hid (E.2.2.2 _ _ _ K0.out), Lib.hid (E.2.2.2 _ _ _ K1.out), Lib.hid E.2.2.1⟩)
      | (have E := endA (Y := wq1) (g := h0_) (a := (.slice p_1.A p_1.n p_1.c)) (b := (.slice d_1.A d_1.n d_1.c)) (h := g0_) (d := (.slice p_0.A p_0.n p_0.c)) (e := (.slice d_0.A d_0.n d_0.c)) (t := 40) hv2; with_reducible exact ⟨_, _, _, _, _, _, rfl, rfl, Lib.hid E.2.1, Lib.hid E.1, Lib.hid (E.2.2.2 _ _ _ K0.out), Lib.hid (E.2.2.2 _ _ _ K1.out), Lib.hid E.2.2.1⟩)
      | (have E := endB hv2 RN0.out (by first | exact Nat.le_refl _ | assumption | exact Nat.le_add_right _ _ | exact Nat.le_trans (by assumption) (Nat.le_add_right _ _)) g0_ (.slice p_0.A p_0.n p_0.c) (.slice d_0.A d_0.n d_0.c) (.cells #[.bool h0_, .slice p_1.A p_1.n p_1.c, .slice d_1.A d_1.n d_1.c] 40 (0, 0)); with_reducible exact ⟨_, _, _, _, _, _, rfl, rfl, Lib.hid E.1, Lib.hid E.2.1, Lib.hid (E.2.2.2 _ _ _ K0.out), Lib.hid (E.2.2.2 _ _ _ K1.out), Lib.hid E.2.2.1⟩)
      | (have E := endB hv2 RN0.out (by first | exact Nat.le_refl _ | assumption | exact Nat.le_add_right _ _ | exact Nat.le_trans (by assumption) (Nat.le_add_right _ _)) h0_ (.slice p_1.A p_1.n p_1.c) (.slice d_1.A d_1.n d_1.c) (.cells #[.bool g0_, .slice p_0.A p_0.n p_0.c, .slice d_0.A d_0.n d_0.c] 40 (0, 0)); with_reducible exact ⟨_, _, _, _, _, _, rfl, rfl, Lib.hid E.2.1, Lib.hid E.1, Lib.hid (E.2.2.2 _ _ _ K0.out), Lib.hid (E.2.2.2 _ _ _ K1.out), Lib.hid E.2.2.1⟩)
      | (have E := endB hv2 RN1.out (by first | exact Nat.le_refl _ | assumption | exact Nat.le_add_right _ _ | exact Nat.le_trans (by assumption) (Nat.le_add_right _ _)) g0_ (.slice p_0.A p_0.n p_0.c) (.slice d_0.A d_0.n d_0.c) (.cells #[.bool h0_, .slice p_1.A p_1.n p_1.c, .slice d_1.A d_1.n d_1.c] 40 (0, 0)); with_reducible exact ⟨_, _, _, _, _, _, rfl, rfl, Lib.hid E.1, Lib.hid E.2.1, Lib.hid (E.2.2.2 _ _ _ K0.out), Lib.hid (E.2.2.2 _ _ _ K1.out), Lib.hid E.2.2.1⟩)
      | (have E := endB hv2 RN1.out (by first | exact Nat.le_refl _ | assumption | exact Nat.le_add_right _ _ | exact Nat.le_trans (by assumption) (Nat.le_add_right _ _)) h0_ (.slice p_1.A p_1.n p_1.c) (.slice d_1.A d_1.n d_1.c) (.cells #[.bool g0_, .slice p_0.A p_0.n p_0.c, .slice d_0.A d_0.n d_0.c] 40 (0, 0)); with_reducible exact ⟨_, _, _, _, _, _, rfl, rfl, Lib.hid E.2.1, Lib.hid E.1, Lib.hid (E.2.2.2 _ _ _ K0.out), Lib.hid (E.2.2.2 _ _ _ K1.out), Lib.hid E.2.2.1⟩)
      | (have E := endC hv2 RN0.out RN1.out (by first | exact Nat.le_refl _ | assumption | exact Nat.le_add_right _ _ | exact Nat.le_trans (by assumption) (Nat.le_add_right _ _)) (by first | exact Nat.le_refl _ | assumption | exact Nat.le_add_right _ _ | exact Nat.le_trans (by assumption) (Nat.le_add_right _ _)) (by omega) g0_ h0_ (.slice p_0.A p_0.n p_0.c) (.slice d_0.A d_0.n d_0.c) (.slice p_1.A p_1.n p_1.c) (.slice d_1.A d_1.n d_1.c); with_reducible exact ⟨_, _, _, _, _, _, rfl, rfl, Lib.hid E.1, Lib.hid E.2.1, Lib.hid (E.2.2.2 _ _ _ K0.out), Lib.hid (E.2.2.2 _ _ _ K1.out), Lib.hid E.2.2.1⟩)
      | (have E := endC hv2 RN1.out RN0.out (by first | exact Nat.le_refl _ | assumption | exact Nat.le_add_right _ _ | exact Nat.le_trans (by assumption) (Nat.le_add_right _ _)) (by first | exact Nat.le_refl _ | assumption | exact Nat.le_add_right _ _ | exact Nat.le_trans (by assumption) (Nat.le_add_right _ _)) (by omega) g0_ h0_ (.slice p_0.A p_0.n p_0.c) (.slice d_0.A d_0.n d_0.c) (.slice p_1.A p_1.n p_1.c) (.slice d_1.A d_1.n d_1.c); with_reducible exact ⟨_, _, _, _, _, _, rfl, rfl, Lib.hid E.1, Lib.hid E.2.1, Lib.hid (E.2.2.2 _ _ _ K0.out), Lib.hid (E.2.2.2 _ _ _ K1.out), Lib.hid E.2.2.1⟩)
      | (have E := endC hv2 RN0.out RN0'.out (by first | exact Nat.le_refl _ | assumption | exact Nat.le_add_right _ _ | exact Nat.le_trans (by assumption) (Nat.le_add_right _ _)) (by first | exact Nat.le_refl _ | assumption | exact Nat.le_add_right _ _ | exact Nat.le_trans (by assumption) (Nat.le_add_right _ _)) (by omega) g0_ h0_ (.slice p_0.A p_0.n p_0.c) (.slice d_0.A d_0.n d_0.c) (.slice p_1.A p_1.n p_1.c) (.slice d_1.A d_1.n d_1.c); with_reducible exact ⟨_, _, _, _, _, _, rfl, rfl, Lib.hid E.1, Lib.hid E.2.1, Lib.hid (E.2.2.2 _ _ _ K0.out), Lib.hid (E.2.2.2 _ _ _ K1.out), Lib.hid E.2.2.1⟩)
      | (have E := endC hv2 RN0'.out RN0.out (by first | exact Nat.le_refl _ | assumption | exact Nat.le_add_right _ _ | exact Nat.le_trans (by assumption) (Nat.le_add_right _ _)) (by first | exact Nat.le_refl _ | assumption | exact Nat.le_add_right _ _ | exact Nat.le_trans (by assumption) (Nat.le_add_right _ _)) (by omega) g0_ h0_ (.slice p_0.A p_0.n p_0.c) (.slice d_0.A d_0.n d_0.c) (.slice p_1.A p_1.n p_1.c) (.slice d_1.A d_1.n d_1.c); with_reducible exact ⟨_, _, _, _, _, _, rfl, rfl, Lib.hid E.1, Lib.hid E.2.1, Lib.hid (E.2.2.2 _ _ _ K0.out), Lib.hid (E.2.2.2 _ _ _ K1.out), Lib.hid E.2.2.1⟩)
      | (have E := endC hv2 RN1.out RN1'.out (by first | exact Nat.le_refl _ | assumption | exact Nat.le_add_right _ _ | exact Nat.le_trans (by assumption) (Nat.le_add_right _ _)) (by first | exact Nat.le_refl _ | assumption | exact Nat.le_add_right _ _ | exact Nat.le_trans (by assumption) (Nat.le_add_right _ _)) (by omega) g0_ h0_ (.slice p_0.A p_0.n p_0.c) (.slice d_0.A d_0.n d_0.c) (.slice p_1.A p_1.n p_1.c) (.slice d_1.A d_1.n d_1.c); with_reducible exact ⟨_, _, _, _, _, _, rfl, rfl, Lib.hid E.1, Lib.hid E.2.1, Lib.hid (E.2.2.2 _ _ _ K0.out), Lib.hid (E.2.2.2 _ _ _ K1.out), Lib.hid E.2.2.1⟩)
      | (have E := endC hv2 RN1'.out RN1.out (by first | exact Nat.le_refl _ | assumption | exact Nat.le_add_right _ _ | exact Nat.le_trans (by assumption) (Nat.le_add_right _ _)) (by first | exact Nat.le_refl _ | assumption | exact Nat.le_add_right _ _ | exact Nat.le_trans (by assumption) (Nat.le_add_right _ _)) (by omega) g0_ h0_ (.slice p_0.A p_0.n p_0.c) (.slice d_0.A d_0.n d_0.c) (.slice p_1.A p_1.n p_1.c) (.slice d_1.A d_1.n d_1.c); with_reducible exact ⟨_, _, _, _, _, _, rfl, rfl, Lib.hid E.1, Lib.hid E.2.1, Lib.hid (E.2.2.2 _ _ _ K0.out), Lib.hid (E.2.2.2 _ _ _ K1.out), Lib.hid E.2.2.1⟩)
  case rest =>
    obtain ⟨i, j, p1, d1, p2, d2, rfl, rfl, Ri, Rj, K1, K2, hbw⟩ := hcut
    have hb := hbw.out
    have R4 := Lib.hid (keep hb R4.out)
    have R5 := Lib.hid (keep hb R5.out)
    have R6 := Lib.hid (keep hb R6.out)
    replace hB := bstep hB hb
    clear hb hbw R3
    have Mi := Lib.hid (show i ≠ w.heap.size + 3 by intro e; have h1 := Ri.out; have h2 := R6.out; rw [e, h2] at h1; simp at h1)
    have Mj := Lib.hid (show j ≠ w.heap.size + 3 by intro e; have h1 := Rj.out; have h2 := R6.out; rw [e, h2] at h1; simp at h1)
    go_wp2_with fail
    have LR4 := fun (w' : World) (h : Ap (w.heap.size + 3) (w.heap.size + 3) wc w') => rowc9 (h.row R4.out (by omega) (by omega))
    have LR5 := fun (w' : World) (h : Ap (w.heap.size + 3) (w.heap.size + 3) wc w') => rowc9 (h.row R5.out (by omega) (by omega))
    have LRi := fun (w' : World) (h : Ap (w.heap.size + 3) (w.heap.size + 3) wc w') => rowc3 (h.row Ri.out Mi.out Mi.out)
    have LRj := fun (w' : World) (h : Ap (w.heap.size + 3) (w.heap.size + 3) wc w') => rowc3 (h.row Rj.out Mj.out Mj.out)
    have hvr := Below.refl wc.heap.size wc
    have hv0 := hvr.drew
    first
    | go_region_held3 (fun w' => Ap (w.heap.size + 3) (w.heap.size + 3) wc w') (first | (with_reducible assumption) | (with_reducible exact Ap.refl _ _ _) | ((repeat (first | with_reducible assumption | with_reducible exact Ap.refl _ _ _ | with_reducible refine Ap.drew ?_ | with_reducible refine Ap.alloc ?_ | with_reducible refine Ap.set1 ?_ | with_reducible refine Ap.set2 ?_ | with_reducible refine Ap.setN (by first | with_reducible assumption | with_reducible exact Nat.le_refl _ | with_reducible exact Nat.le_add_right _ _ | with_reducible exact Nat.le_trans (by assumption) (Nat.le_add_right _ _)) ?_)); done))
        (first
          | (go_at_call 77; (with_reducible refine (H2.out _ (bstep hB (by first | with_reducible exact hv0))).mono ?_); rintro e wq0 ⟨u_0, rfl, hk_0, hb⟩; have hv1 : Below wc.heap.size wc wq0 := (by first | with_reducible exact bstep (hv0) hb); have hs1 := Ap.of_below (g := w.heap.size + 3) (h := w.heap.size + 3) hv1; have sz1 := hv1.size; have K1 := Lib.hid (by first | with_reducible exact K1.out.below hb | with_reducible exact K1.out.drewR.below hb); have K2 := Lib.hid (by first | with_reducible exact K2.out.below hb | with_reducible exact K2.out.drewR.below hb); have L0 := Lib.hid hk_0; clear hk_0; clear hb)
          | (go_at_call 113; (with_reducible refine (H3.out _ (bstep hB (by first | with_reducible exact hv1)) p1 d1 p2 d2 (by first | with_reducible exact K1.out | with_reducible exact K1.out.drewR) (by first | with_reducible exact K2.out | with_reducible exact K2.out.drewR)).mono ?_); rintro e wq1 ⟨p_1, d_1, rfl, hk_1, hb⟩; have hv2 : Below wc.heap.size wc wq1 := (by first | with_reducible exact bstep (hv1) hb); have hs2 := Ap.of_below (g := w.heap.size + 3) (h := w.heap.size + 3) hv2; have sz2 := hv2.size; have K1 := Lib.hid (by first | with_reducible exact K1.out.below hb | with_reducible exact K1.out.drewR.below hb); have K2 := Lib.hid (by first | with_reducible exact K2.out.below hb | with_reducible exact K2.out.drewR.below hb); have L0 := Lib.hid (by first | with_reducible exact L0.out.below hb | with_reducible exact L0.out.drewR.below hb); have L1 := Lib.hid hk_1; clear hk_1; clear hb)
          | (go_at_call 141; (with_reducible refine (H4.out _ (bstep hB (by first | with_reducible exact hv2)) p1 d1 p_1 d_1 (by first | with_reducible exact K1.out | with_reducible exact K1.out.drewR) (by first | with_reducible exact L1.out | with_reducible exact L1.out.drewR)).mono ?_); rintro e wq2 ⟨p_2, d_2, rfl, hk_2, hb⟩; have hv3 : Below wc.heap.size wc wq2 := (by first | with_reducible exact bstep (hv2) hb); have hs3 := Ap.of_below (g := w.heap.size + 3) (h := w.heap.size + 3) hv3; have sz3 := hv3.size; have K1 := Lib.hid (by first | with_reducible exact K1.out.below hb | with_reducible exact K1.out.drewR.below hb); have K2 := Lib.hid (by first | with_reducible exact K2.out.below hb | with_reducible exact K2.out.drewR.below hb); have L0 := Lib.hid (by first | with_reducible exact L0.out.below hb | with_reducible exact L0.out.drewR.below hb); have L1 := Lib.hid (by first | with_reducible exact L1.out.below hb | with_reducible exact L1.out.drewR.below hb); have L2 := Lib.hid hk_2; clear hk_2; clear hb)
          | (go_at_call 81; (with_reducible refine (H5.out _ (bstep hB (by first | with_reducible exact hv3)) u_0 p_2 d_2 (by first | with_reducible exact L0.out | with_reducible exact L0.out.drewR) (by first | with_reducible exact L2.out | with_reducible exact L2.out.drewR)).mono ?_); rintro e wq3 ⟨u_3, rfl, hk_3, hb⟩; have hv4 : Below wc.heap.size wc wq3 := (by first | with_reducible exact bstep (hv3) hb); have hs4 := Ap.of_below (g := w.heap.size + 3) (h := w.heap.size + 3) hv4; have sz4 := hv4.size; have K1 := Lib.hid (by first | with_reducible exact K1.out.below hb | with_reducible exact K1.out.drewR.below hb); have K2 := Lib.hid (by first | with_reducible exact K2.out.below hb | with_reducible exact K2.out.drewR.below hb); have L0 := Lib.hid (by first | with_reducible exact L0.out.below hb | with_reducible exact L0.out.drewR.below hb); have L1 := Lib.hid (by first | with_reducible exact L1.out.below hb | with_reducible exact L1.out.drewR.below hb); have L2 := Lib.hid (by first | with_reducible exact L2.out.below hb | with_reducible exact L2.out.drewR.below hb); have L3 := Lib.hid hk_3; clear hk_3; clear hb)
          | (go_at_call 74; (with_reducible refine (H6.out _ (bstep hB (by first | with_reducible exact hv4)) u_3 (by first | with_reducible exact L3.out | with_reducible exact L3.out.drewR)).mono ?_); rintro e wq4 ⟨u_4, rfl, hk_4, hb⟩; have hv5 : Below wc.heap.size wc wq4 := (by first | with_reducible exact bstep (hv4) hb); have hs5 := Ap.of_below (g := w.heap.size + 3) (h := w.heap.size + 3) hv5; have sz5 := hv5.size; have K1 := Lib.hid (by first | with_reducible exact K1.out.below hb | with_reducible exact K1.out.drewR.below hb); have K2 := Lib.hid (by first | with_reducible exact K2.out.below hb | with_reducible exact K2.out.drewR.below hb); have L0 := Lib.hid (by first | with_reducible exact L0.out.below hb | with_reducible exact L0.out.drewR.below hb); have L1 := Lib.hid (by first | with_reducible exact L1.out.below hb | with_reducible exact L1.out.drewR.below hb); have L2 := Lib.hid (by first | with_reducible exact L2.out.below hb | with_reducible exact L2.out.drewR.below hb); have L3 := Lib.hid (by first | with_reducible exact L3.out.below hb | with_reducible exact L3.out.drewR.below hb); have L4 := Lib.hid hk_4; clear hk_4; have RoX := keep hv5 R6.out; obtain ⟨RoF0, RoF1, RoF2, RoF3, RoF4, RoF5, RoF6, RoF7, RoF8, RoF9, RoF10, RoF11, RoF12, RoF13, RoF14, RoF15, RoF16, RoF17⟩ := row9 RoX; clear hb))
    | fail
    all_goals
      go_wp2_with fail
      exact bodyPost_ret (res_c rfl v_row rfl (store9 RoX _ _ _ _ _ _ _ _ _) rfl) rfl ⟨_, rfl, L4.out.store9 RoX, store9_below (bstep hB hv5) (by omega) _ _ _ _ _ _ _ _ _⟩

end Go.Proofs.YtgbabmkclojgeaaGreatDoor
