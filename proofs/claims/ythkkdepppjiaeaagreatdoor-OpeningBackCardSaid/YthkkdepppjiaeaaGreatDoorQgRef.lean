/- Walks of the reference of layer 3: To, Sign, Int, Neg, Inv, Mul, Add at one denominator. -/
import Derived.Test.YthkkdepppjiaeaaGreatDoorQfRef
namespace Go.Proofs.YthkkdepppjiaeaaGreatDoor
open Go.RowKit Go.Shelf Go.Sort

attribute [local go_sem] Oper.semAt_some

set_option maxHeartbeats 4000000 in
theorem r3_To (x : Rat) (p d : Sl) (w : World) (h : RQ w p d x) (hx : Sz 40000000 x) :
    Calls Tryz.prog 21 #[qW (sgB x.num) p d] w fun e w' => e = .returned (.string (rs x)) ∧ Below w.heap.size w w' := by
  have h1 := nS_one x.den
  have s1 := iS_size x.num
  have s2 := nS_size x.den
  have l1 := nl_ws x.den
  obtain ⟨a1, a2⟩ := hx
  have HP := Lib.hid (fun W (hb : Below w.heap.size w W) => r2_To x.num p W (h.num.below hb) (by omega))
  have HD := Lib.hid (fun W (hb : Below w.heap.size w W) => re_To _ x.den W (h.den.below hb) (by omega))
  have hn1 : ¬ 9223372036854775807 < 1 + (nS x.den).size := by omega
  have hn2 : ¬ 9223372036854775807 < (iS x.num).size + (1 + (nS x.den).size) := by omega
  by_cases hd : x.den = 1
  · rw [rs_one hd]
    rw [decide_eq_true hd] at h1
    clear s1 s2 a1 a2 hd hn1 hn2 h l1
    generalize sgB x.num = b at *
    go_enter Tryz.func21, Tryz.ntmps21
    go_wp2_with fail
    generalize hW : World.alloc w _ = W
    obtain ⟨hB, hsz, R1⟩ := A1 hW
    have R1 := Lib.hid R1
    clear hW hsz
    refine (HP.out _ hB).mono ?_
    rintro e w1 ⟨rfl, hb⟩
    replace hB := bstep hB hb
    have R1 := Lib.hid (keep hb R1.out)
    clear hb
    obtain ⟨R1c0, R1c1, R1c2, R1f0, R1f1, R1f2⟩ := row3 R1.out
    go_wp2_with fail
    refine (HD.out _ hB).mono ?_
    rintro e w2 ⟨rfl, hb⟩
    replace hB := bstep hB hb
    clear hb
    go_wp2_with fail
    go_ret
    exact ⟨rfl, hB⟩
  · have hr : rs x = iS x.num ++ (⟨#[47]⟩ ++ nS x.den) := by rw [rs_frac hd, ByteArray.append_assoc]
    rw [hr]
    rw [decide_eq_false hd] at h1
    clear s1 s2 a1 a2 hd h hr l1
    generalize sgB x.num = b at *
    go_enter Tryz.func21, Tryz.ntmps21
    go_wp2_with fail
    generalize hW : World.alloc w _ = W
    obtain ⟨hB, hsz, R1⟩ := A1 hW
    have R1 := Lib.hid R1
    clear hW hsz
    refine (HP.out _ hB).mono ?_
    rintro e w1 ⟨rfl, hb⟩
    replace hB := bstep hB hb
    have R1 := Lib.hid (keep hb R1.out)
    clear hb
    obtain ⟨R1c0, R1c1, R1c2, R1f0, R1f1, R1f2⟩ := row3 R1.out
    go_wp2_with fail
    refine (HD.out _ hB).mono ?_
    rintro e w2 ⟨rfl, hb⟩
    replace hB := bstep hB hb
    clear hb
    go_wp2_with fail
    go_ret
    exact ⟨rfl, hB⟩

set_option maxHeartbeats 4000000 in
theorem r3_Sign (x : Rat) (p d : Sl) (w : World) (h : RQ w p d x) :
    Calls Tryz.prog 16 #[qW (sgB x.num) p d] w fun e w' => e = .returned (.int .i64 x.num.sign) ∧ Below w.heap.size w w' := by
  have HS := Lib.hid (fun W (hb : Below w.heap.size w W) => r2_Signum x.num p W (h.num.below hb))
  clear h
  generalize x.num.sign = c at *
  generalize sgB x.num = b at *
  go_enter Tryz.func16, Tryz.ntmps16
  go_wp2_with fail
  generalize hW : World.alloc w _ = W
  obtain ⟨hB, hsz, R1⟩ := A1 hW
  have R1 := Lib.hid R1
  clear hW hsz
  refine (HS.out _ hB).mono ?_
  rintro e w1 ⟨rfl, hb⟩
  replace hB := bstep hB hb
  clear hb
  go_wp2_with fail
  go_ret
  exact ⟨rfl, hB⟩

set_option maxHeartbeats 4000000 in
theorem r2_Small0 (w : World) :
    Calls Tryz.prog 96 #[.int .i64 0] w fun e w' => ∃ s : Sl, e = .returned (zW false s) ∧ RN w' s 0 ∧ Below w.heap.size w w' := by
  have HS := Lib.hid (fun W => r1_Small 0 W (by decide))
  have HM := Lib.hid (r2_MakeS (b := false) (n := 0) (z := 0) rfl)
  go_enter Tryz.func96, Tryz.ntmps96
  go_wp2_with fail
  generalize hW : World.alloc w _ = W
  obtain ⟨hB, hsz, R1⟩ := A1 hW
  have R1 := Lib.hid R1
  clear hW hsz
  refine (HS.out _).mono ?_
  rintro e w1 ⟨s, rfl, hs, hb⟩
  have HK := Lib.hid hs
  replace hB := bstep hB hb
  have R1 := Lib.hid (keep hb R1.out)
  clear hb hs
  go_wp2_with fail
  refine (HM.out _ _ HK.out).mono ?_
  rintro e w2 ⟨rfl, hb⟩
  have HK := Lib.hid (HK.out.below hb)
  replace hB := bstep hB hb
  have R1 := Lib.hid (keep hb R1.out)
  clear hb
  obtain ⟨R1c0, R1c1, R1f0, R1f1⟩ := row2 R1.out
  go_wp2_with fail
  exact bodyPost_ret (res_c rfl z_row rfl (store2 R1.out _ _) rfl) rfl ⟨_, rfl, HK.out.store2 R1.out, store2_below hB (by omega) _ _⟩

set_option maxHeartbeats 4000000 in
theorem r3_Int0 (w : World) :
    Calls Tryz.prog 54 #[.int .i64 0] w fun e w' => ∃ p d : Sl, e = .returned (qW false p d) ∧ RQ w' p d 0 ∧ Below w.heap.size w w' := by
  have HS := Lib.hid (fun W => r2_Small0 W)
  have HD := Lib.hid (fun W => r1_Small 1 W (by decide))
  go_enter Tryz.func54, Tryz.ntmps54
  go_wp2_with fail
  generalize hW : World.alloc w _ = W
  obtain ⟨hB, hsz, R1⟩ := A1 hW
  have R1 := Lib.hid R1
  clear hW hsz
  refine (HS.out _).mono ?_
  rintro e w1 ⟨s, rfl, hs, hb⟩
  have HK := Lib.hid hs
  replace hB := bstep hB hb
  have R1 := Lib.hid (keep hb R1.out)
  clear hb hs
  go_wp2_with fail
  refine (HD.out _).mono ?_
  rintro e w2 ⟨t, rfl, ht, hb⟩
  have HT := Lib.hid ht
  have HK := Lib.hid (HK.out.below hb)
  replace hB := bstep hB hb
  have R1 := Lib.hid (keep hb R1.out)
  clear hb ht
  obtain ⟨R1c0, R1c1, R1c2, R1f0, R1f1, R1f2⟩ := row3 R1.out
  go_wp2_with fail
  exact bodyPost_ret (res_c rfl q_row rfl (store3 R1.out _ _ _) rfl) rfl ⟨_, _, rfl, (RQ.mk (x := 0) HK.out HT.out).store3 R1.out, store3_below hB (by omega) _ _ _⟩


set_option maxRecDepth 100000 in
set_option maxHeartbeats 4000000 in
theorem r3_Neg (x : Rat) (p d : Sl) (w : World) (h : RQ w p d x) :
    Calls Tryz.prog 27 #[qW (sgB x.num) p d] w fun e w' => ∃ a c : Sl, e = .returned (qW (sgB (-x).num) a c) ∧ RQ w' a c (-x) ∧ Below w.heap.size w w' := by
  have HO := Lib.hid (fun W (hb : Below w.heap.size w W) => r2_Opposite x.num p W (h.num.below hb))
  have hK : RQ w p d (-x) := ⟨by rw [Rat.neg_num, Int.natAbs_neg]; exact h.num, h.den⟩
  have HK := Lib.hid (fun W (hb : Below w.heap.size w W) => hK.below hb)
  rw [Rat.neg_num]
  clear h hK
  generalize sgB (-x.num) = c at *
  generalize sgB x.num = b at *
  go_enter Tryz.func27, Tryz.ntmps27
  go_wp2_with fail
  generalize hW : (World.alloc w _).alloc _ = W
  obtain ⟨hB, hsz, R1, R2⟩ := A2 hW
  have R1 := Lib.hid R1
  have R2 := Lib.hid R2
  clear hW hsz
  obtain ⟨R1c0, R1c1, R1c2⟩ := rowc3 R1.out
  have hB0 := hB.drew
  go_region_held3 (fun w' => w'.cell? ⟨w.heap.size, 0, none⟩ = some (.bool b) ∧ w'.cell? ⟨w.heap.size, 1, none⟩ = some (.slice p.A p.n p.c) ∧ w'.cell? ⟨w.heap.size, 2, none⟩ = some (.slice d.A d.n d.c)) (first | exact ⟨R1c0, R1c1, R1c2⟩ | exact ⟨by with_reducible assumption, by with_reducible assumption, by with_reducible assumption⟩ | exact ⟨cS3 (by omega) (by with_reducible assumption), cS3 (by omega) (by with_reducible assumption), cS3 (by omega) (by with_reducible assumption)⟩ | go_keep)
      (first
        | (go_at_call 71; (with_reducible refine (HO.out _ hB0).mono ?_); rintro e wq0 ⟨rfl, hb⟩; have hB1 := bstep hB0 hb; have R1 := Lib.hid (keep hb R1.out); have R2 := Lib.hid (keep hb R2.out); obtain ⟨R1c0, R1c1, R1c2⟩ := rowc3 R1.out; obtain ⟨R2f0, R2f1, R2f2, R2f3, R2f4, R2f5⟩ := row3 R2.out; clear hb))
  all_goals
    go_wp2_with fail
    exact bodyPost_ret (res_c rfl q_row rfl (store3 R2.out _ _ _) rfl) rfl ⟨_, _, rfl, (HK.out _ hB1).store3 R2.out, store3_below hB1 (by omega) _ _ _⟩


theorem inv_parts {x : Rat} (h0 : x ≠ 0) : (if sgB x.num = true then -((x.den : Nat) : Int) else (x.den : Nat)) = (x⁻¹).num ∧ (x⁻¹).num.natAbs = x.den ∧ (x⁻¹).den = x.num.natAbs := by
  have hn0 : x.num ≠ 0 := fun e => h0 (Rat.num_eq_zero.1 e)
  unfold sgB
  rcases Int.lt_trichotomy x.num 0 with h | h | h
  · obtain ⟨e1, e2⟩ := rat_inv_neg h
    rw [if_pos (decide_eq_true h), e1]; exact ⟨rfl, by omega, e2⟩
  · exact absurd h hn0
  · obtain ⟨e1, e2⟩ := rat_inv_pos h
    rw [if_neg (by rw [decide_eq_false (by omega)]; decide), e1]; exact ⟨rfl, by omega, e2⟩
set_option maxRecDepth 100000 in
set_option maxHeartbeats 4000000 in
theorem r3_Inv (x : Rat) (p d : Sl) (w : World) (h : RQ w p d x) (h0 : x ≠ 0) :
    Calls Tryz.prog 174 #[qW (sgB x.num) p d] w fun e w' => ∃ a c : Sl, e = .returned (qW (sgB (x⁻¹).num) a c) ∧ RQ w' a c x⁻¹ ∧ Below w.heap.size w w' := by
  obtain ⟨e1, e2, e3⟩ := inv_parts h0
  have HM := Lib.hid (fun W (hb : Below w.heap.size w W) => r2_MakeS e1 W d (h.den.below hb))
  have hK : RQ w d p x⁻¹ := ⟨by rw [e2]; exact h.den, by rw [e3]; exact h.num⟩
  have HK := Lib.hid (fun W (hb : Below w.heap.size w W) => hK.below hb)
  clear h hK e1 e2 e3
  generalize sgB (x⁻¹).num = c at *
  generalize sgB x.num = b at *
  go_enter Tryz.func174, Tryz.ntmps174
  go_wp2_with fail
  generalize hW : (World.alloc w _).alloc _ = W
  obtain ⟨hB, hsz, R1, R2⟩ := A2 hW
  have R1 := Lib.hid R1
  have R2 := Lib.hid R2
  clear hW hsz
  obtain ⟨R1c0, R1c1, R1c2⟩ := rowc3 R1.out
  have hB0 := hB.drew
  go_region_held3 (fun w' => w'.cell? ⟨w.heap.size, 0, none⟩ = some (.bool b) ∧ w'.cell? ⟨w.heap.size, 1, none⟩ = some (.slice p.A p.n p.c) ∧ w'.cell? ⟨w.heap.size, 2, none⟩ = some (.slice d.A d.n d.c)) (first | exact ⟨R1c0, R1c1, R1c2⟩ | exact ⟨by with_reducible assumption, by with_reducible assumption, by with_reducible assumption⟩ | exact ⟨cS3 (by omega) (by with_reducible assumption), cS3 (by omega) (by with_reducible assumption), cS3 (by omega) (by with_reducible assumption)⟩ | go_keep)
      (first
        | (go_at_call 67; (with_reducible refine (HM.out _ hB0).mono ?_); rintro e wq0 ⟨rfl, hb⟩; have hB1 := bstep hB0 hb; have R1 := Lib.hid (keep hb R1.out); have R2 := Lib.hid (keep hb R2.out); obtain ⟨R1c0, R1c1, R1c2⟩ := rowc3 R1.out; obtain ⟨R2f0, R2f1, R2f2, R2f3, R2f4, R2f5⟩ := row3 R2.out; clear hb))
  all_goals
    go_wp2_with fail
    exact bodyPost_ret (res_c rfl q_row rfl (store3 R2.out _ _ _) rfl) rfl ⟨_, _, rfl, (HK.out _ hB1).store3 R2.out, store3_below hB1 (by omega) _ _ _⟩


set_option maxRecDepth 100000 in
set_option maxHeartbeats 4000000 in
theorem r3_Mul (x y : Rat) (p d s t : Sl) (w : World) (hx : RQ w p d x) (hy : RQ w s t y) (zx : Sz 40000000 x) (zy : Sz 40000000 y) :
    Calls Tryz.prog 69 #[qW (sgB x.num) p d, qW (sgB y.num) s t] w fun e w' => ∃ a c : Sl, e = .returned (qW (sgB (x * y).num) a c) ∧ RQ w' a c (x * y) ∧ Below w.heap.size w w' := by
  obtain ⟨a1, a2⟩ := zx
  obtain ⟨b1, b2⟩ := zy
  have n1 := nl_mulI x.num y.num
  have n2 := nl_mul x.den y.den
  have HT := Lib.hid (fun W (hb : Below w.heap.size w W) => r2_Times x.num y.num p s W (hx.num.below hb) (hy.num.below hb) (by omega) (by omega))
  have HN := Lib.hid (fun W (hb : Below w.heap.size w W) => n_Times d t _ _ W (hx.den.below hb) (hy.den.below hb) (by omega) (by omega))
  have hL := fun W r u hr hu => r3_lowest (x.num * y.num) (x.den * y.den) r u W hr hu (by omega) (by omega) (Nat.mul_ne_zero x.den_nz y.den_nz)
  rw [mul_val] at hL
  have HL := Lib.hid hL
  clear hx hy a1 a2 b1 b2 n1 n2 hL
  generalize x.den * y.den = m at *
  generalize (x.num * y.num).natAbs = k at *
  generalize sgB (x.num * y.num) = bm at *
  generalize x * y = z at *
  generalize sgB z.num = bz at *
  generalize sgB x.num = b at *
  generalize sgB y.num = c at *
  go_enter Tryz.func69, Tryz.ntmps69
  go_wp2_with fail
  generalize hW : ((World.alloc w _).alloc _).alloc _ = W
  obtain ⟨hB, hsz, R2, R3, R4⟩ := A3 hW
  have R2 := Lib.hid R2
  have R3 := Lib.hid R3
  have R4 := Lib.hid R4
  clear hW hsz
  obtain ⟨R2c0, R2c1, R2c2⟩ := rowc3 R2.out
  obtain ⟨R3c0, R3c1, R3c2⟩ := rowc3 R3.out
  have hB0 := hB.drew
  go_region_held3 (fun w' => w'.cell? ⟨w.heap.size, 0, none⟩ = some (.bool b) ∧ w'.cell? ⟨w.heap.size, 1, none⟩ = some (.slice p.A p.n p.c) ∧ w'.cell? ⟨w.heap.size, 2, none⟩ = some (.slice d.A d.n d.c) ∧ w'.cell? ⟨w.heap.size + 1, 0, none⟩ = some (.bool c) ∧ w'.cell? ⟨w.heap.size + 1, 1, none⟩ = some (.slice s.A s.n s.c) ∧ w'.cell? ⟨w.heap.size + 1, 2, none⟩ = some (.slice t.A t.n t.c)) (first | exact ⟨R2c0, R2c1, R2c2, R3c0, R3c1, R3c2⟩ | exact ⟨by with_reducible assumption, by with_reducible assumption, by with_reducible assumption, by with_reducible assumption, by with_reducible assumption, by with_reducible assumption⟩ | exact ⟨cS3 (by omega) (by with_reducible assumption), cS3 (by omega) (by with_reducible assumption), cS3 (by omega) (by with_reducible assumption), cS3 (by omega) (by with_reducible assumption), cS3 (by omega) (by with_reducible assumption), cS3 (by omega) (by with_reducible assumption)⟩ | go_keep)
      (first
        | (go_at_call 108; (with_reducible refine (HT.out _ hB0).mono ?_); rintro e wq0 ⟨r, rfl, hr, hb⟩; have hB1 := bstep hB0 hb; have R2 := Lib.hid (keep hb R2.out); have R3 := Lib.hid (keep hb R3.out); have R4 := Lib.hid (keep hb R4.out); obtain ⟨R2c0, R2c1, R2c2⟩ := rowc3 R2.out; obtain ⟨R3c0, R3c1, R3c2⟩ := rowc3 R3.out; have HR := Lib.hid hr; clear hb)
        | (go_at_call 68; (with_reducible refine (HN.out _ hB1).mono ?_); rintro e wq1 ⟨u, rfl, hu, hb⟩; have hB2 := bstep hB1 hb; have R2 := Lib.hid (keep hb R2.out); have R3 := Lib.hid (keep hb R3.out); have R4 := Lib.hid (keep hb R4.out); obtain ⟨R2c0, R2c1, R2c2⟩ := rowc3 R2.out; obtain ⟨R3c0, R3c1, R3c2⟩ := rowc3 R3.out; have HU := Lib.hid hu; have HR := Lib.hid (HR.out.below hb); clear hb)
        | (go_at_call 65; (with_reducible refine (HL.out _ r u HR.out HU.out).mono ?_); rintro e wq2 ⟨f, g, rfl, hf, hb⟩; have hB3 := bstep hB2 hb; have R2 := Lib.hid (keep hb R2.out); have R3 := Lib.hid (keep hb R3.out); have R4 := Lib.hid (keep hb R4.out); obtain ⟨R2c0, R2c1, R2c2⟩ := rowc3 R2.out; obtain ⟨R3c0, R3c1, R3c2⟩ := rowc3 R3.out; obtain ⟨R4f0, R4f1, R4f2, R4f3, R4f4, R4f5⟩ := row3 R4.out; have HK := Lib.hid hf; clear hb))
  all_goals
    go_wp2_with fail
    exact bodyPost_ret (res_c rfl q_row rfl (store3 R4.out _ _ _) rfl) rfl ⟨_, _, rfl, HK.out.store3 R4.out, store3_below hB3 (by omega) _ _ _⟩


theorem add_one {x y : Rat} (h : x.den = y.den) : mkRat (x.num + y.num) x.den = x + y := by
  rw [Rat.add_def', ← h, ← Int.add_mul]
  exact (Rat.mkRat_mul_right x.den_nz).symm
set_option maxRecDepth 100000 in
set_option maxHeartbeats 4000000 in
theorem r3_Add_one (x y : Rat) (p d s t : Sl) (w : World) (hx : RQ w p d x) (hy : RQ w s t y) (zx : Sz 40000000 x) (zy : Sz 40000000 y) (hd : x.den = y.den) :
    Calls Tryz.prog 22 #[qW (sgB x.num) p d, qW (sgB y.num) s t] w fun e w' => ∃ a c : Sl, e = .returned (qW (sgB (x + y).num) a c) ∧ RQ w' a c (x + y) ∧ Below w.heap.size w w' := by
  obtain ⟨a1, a2⟩ := zx
  obtain ⟨b1, b2⟩ := zy
  have n1 := nl_addI x.num y.num
  have hC := fun W (hb : Below w.heap.size w W) => n_Cmp d t _ _ W (hx.den.below hb) (hy.den.below hb)
  rw [show cmpI (x.den : Int) (y.den : Int) = 0 by rw [hd]; unfold cmpI; rw [if_neg (by omega), if_neg (by omega)]] at hC
  have HC := Lib.hid hC
  have HT := Lib.hid (fun W (hb : Below w.heap.size w W) => r2_Plus x.num y.num p s W (hx.num.below hb) (hy.num.below hb) (by omega) (by omega))
  have hL := fun W (hb : Below w.heap.size w W) r hr => r3_lowest (x.num + y.num) x.den r d W hr (hx.den.below hb) (by omega) (by omega) x.den_nz
  rw [add_one hd] at hL
  have HL := Lib.hid hL
  clear hx hy a1 a2 b1 b2 n1 hL hC hd
  generalize (x.num + y.num).natAbs = k at *
  generalize sgB (x.num + y.num) = bm at *
  generalize x + y = z at *
  generalize sgB z.num = bz at *
  generalize sgB x.num = b at *
  generalize sgB y.num = c at *
  go_enter Tryz.func22, Tryz.ntmps22
  go_wp2_with fail
  generalize hW : ((World.alloc w _).alloc _).alloc _ = W
  obtain ⟨hB, hsz, R2, R3, R4⟩ := A3 hW
  have R2 := Lib.hid R2
  have R3 := Lib.hid R3
  have R4 := Lib.hid R4
  clear hW hsz
  refine (HC.out _ hB).mono ?_
  rintro e w1 ⟨rfl, hb⟩
  replace hB := bstep hB hb
  have R2 := Lib.hid (keep hb R2.out)
  have R3 := Lib.hid (keep hb R3.out)
  have R4 := Lib.hid (keep hb R4.out)
  clear hb
  go_wp2_with fail
  obtain ⟨R2c0, R2c1, R2c2⟩ := rowc3 R2.out
  obtain ⟨R3c0, R3c1, R3c2⟩ := rowc3 R3.out
  have hB0 := hB.drew
  go_region_held3 (fun w' => w'.cell? ⟨w.heap.size, 0, none⟩ = some (.bool b) ∧ w'.cell? ⟨w.heap.size, 1, none⟩ = some (.slice p.A p.n p.c) ∧ w'.cell? ⟨w.heap.size, 2, none⟩ = some (.slice d.A d.n d.c) ∧ w'.cell? ⟨w.heap.size + 1, 0, none⟩ = some (.bool c) ∧ w'.cell? ⟨w.heap.size + 1, 1, none⟩ = some (.slice s.A s.n s.c) ∧ w'.cell? ⟨w.heap.size + 1, 2, none⟩ = some (.slice t.A t.n t.c)) (first | exact ⟨R2c0, R2c1, R2c2, R3c0, R3c1, R3c2⟩ | exact ⟨by with_reducible assumption, by with_reducible assumption, by with_reducible assumption, by with_reducible assumption, by with_reducible assumption, by with_reducible assumption⟩ | exact ⟨cS3 (by omega) (by with_reducible assumption), cS3 (by omega) (by with_reducible assumption), cS3 (by omega) (by with_reducible assumption), cS3 (by omega) (by with_reducible assumption), cS3 (by omega) (by with_reducible assumption), cS3 (by omega) (by with_reducible assumption)⟩ | go_keep)
      (first
        | (go_at_call 66; (with_reducible refine (HT.out _ hB0).mono ?_); rintro e wq0 ⟨r, rfl, hr, hb⟩; have hB1 := bstep hB0 hb; have R2 := Lib.hid (keep hb R2.out); have R3 := Lib.hid (keep hb R3.out); have R4 := Lib.hid (keep hb R4.out); obtain ⟨R2c0, R2c1, R2c2⟩ := rowc3 R2.out; obtain ⟨R3c0, R3c1, R3c2⟩ := rowc3 R3.out; have HR := Lib.hid hr; clear hb)
        | (go_at_call 65; (with_reducible refine (HL.out _ hB1 r HR.out).mono ?_); rintro e wq1 ⟨f, g, rfl, hf, hb⟩; have hB2 := bstep hB1 hb; have R2 := Lib.hid (keep hb R2.out); have R3 := Lib.hid (keep hb R3.out); have R4 := Lib.hid (keep hb R4.out); obtain ⟨R2c0, R2c1, R2c2⟩ := rowc3 R2.out; obtain ⟨R3c0, R3c1, R3c2⟩ := rowc3 R3.out; obtain ⟨R4f0, R4f1, R4f2, R4f3, R4f4, R4f5⟩ := row3 R4.out; have HK := Lib.hid hf; clear hb))
  all_goals
    go_wp2_with fail
    exact bodyPost_ret (res_c rfl q_row rfl (store3 R4.out _ _ _) rfl) rfl ⟨_, _, rfl, HK.out.store3 R4.out, store3_below hB2 (by omega) _ _ _⟩

end Go.Proofs.YthkkdepppjiaeaaGreatDoor
