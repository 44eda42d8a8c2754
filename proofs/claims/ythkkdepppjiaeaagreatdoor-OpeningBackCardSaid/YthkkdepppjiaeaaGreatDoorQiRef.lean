/- Walks of the reference of layer 3: Add at all, Sub, Div, Cmp, Least, Most. -/
import Derived.Test.YthkkdepppjiaeaaGreatDoorQhRef
namespace Go.Proofs.YthkkdepppjiaeaaGreatDoor
open Go.RowKit Go.Shelf Go.Sort

attribute [local go_sem] Oper.semAt_some

theorem r3_Add (x y : Rat) (p d s t : Sl) (w : World) (hx : RQ w p d x) (hy : RQ w s t y) (zx : Sz 20000000 x) (zy : Sz 20000000 y) :
    Calls Tryz.prog 22 #[qW (sgB x.num) p d, qW (sgB y.num) s t] w fun e w' => ∃ a c : Sl, e = .returned (qW (sgB (x + y).num) a c) ∧ RQ w' a c (x + y) ∧ Below w.heap.size w w' := by
  by_cases hd : x.den = y.den
  · exact r3_Add_one x y p d s t w hx hy (zx.mono (by decide)) (zy.mono (by decide)) hd
  · exact r3_Add_two x y p d s t w hx hy zx zy hd


set_option maxRecDepth 100000 in
set_option maxHeartbeats 4000000 in
theorem r3_Sub (x y : Rat) (p d s t : Sl) (w : World) (hx : RQ w p d x) (hy : RQ w s t y) (zx : Sz 20000000 x) (zy : Sz 20000000 y) :
    Calls Tryz.prog 23 #[qW (sgB x.num) p d, qW (sgB y.num) s t] w fun e w' => ∃ a c : Sl, e = .returned (qW (sgB (x - y).num) a c) ∧ RQ w' a c (x - y) ∧ Below w.heap.size w w' := by
  have HN := Lib.hid (fun W (hb : Below w.heap.size w W) => r3_Neg y s t W (hy.below hb))
  have hP := fun W (hb : Below w.heap.size w W) e f he => r3_Add x (-y) p d e f W (hx.below hb) he zx (sz_neg zy)
  rw [← Rat.sub_eq_add_neg] at hP
  have HP := Lib.hid hP
  clear hx hy hP
  generalize x - y = z at *
  generalize sgB z.num = bz at *
  generalize (-y) = v at *
  generalize sgB v.num = bv at *
  generalize sgB x.num = b at *
  generalize sgB y.num = c at *
  go_enter Tryz.func23, Tryz.ntmps23
  go_wp2_with fail
  generalize hW : ((World.alloc w _).alloc _).alloc _ = W
  obtain ⟨hB, hsz, R2, R3, R4⟩ := A3 hW
  have R2 := Lib.hid R2
  have R3 := Lib.hid R3
  have R4 := Lib.hid R4
  clear hW hsz
  obtain ⟨R2c0, R2c1, R2c2⟩ := rowc3 R2.out
  obtain ⟨R3c0, R3c1, R3c2⟩ := rowc3 R3.out
  have hB0 := hB.drew
  go_region_held3 (fun w' => w'.cell? ⟨w.heap.size, 0, none⟩ = some (.bool b) ∧ w'.cell? ⟨w.heap.size, 1, none⟩ = some (.slice p.A p.n p.c) ∧ w'.cell? ⟨w.heap.size, 2, none⟩ = some (.slice d.A d.n d.c) ∧ w'.cell? ⟨w.heap.size + 1, 0, none⟩ = some (.bool c) ∧ w'.cell? ⟨w.heap.size + 1, 1, none⟩ = some (.slice s.A s.n s.c) ∧ w'.cell? ⟨w.heap.size + 1, 2, none⟩ = some (.slice t.A t.n t.c)) (first | exact ⟨R2c0, R2c1, R2c2, R3c0, R3c1, R3c2⟩ | exact ⟨by with_reducible assumption, by with_reducible assumption, by with_reducible assumption, by with_reducible assumption, by with_reducible assumption, by with_reducible assumption⟩ | exact ⟨cS3 (by omega) (by with_reducible assumption), cS3 (by omega) (by with_reducible assumption), cS3 (by omega) (by with_reducible assumption), cS3 (by omega) (by with_reducible assumption), cS3 (by omega) (by with_reducible assumption), cS3 (by omega) (by with_reducible assumption)⟩ | go_keep)
      (first
        | (go_at_call 27; (with_reducible refine (HN.out _ hB0).mono ?_); rintro e wq0 ⟨e1, f1, rfl, hr, hb⟩; have hB1 := bstep hB0 hb; have R2 := Lib.hid (keep hb R2.out); have R3 := Lib.hid (keep hb R3.out); have R4 := Lib.hid (keep hb R4.out); obtain ⟨R2c0, R2c1, R2c2⟩ := rowc3 R2.out; obtain ⟨R3c0, R3c1, R3c2⟩ := rowc3 R3.out; have HR := Lib.hid hr; clear hb)
        | (go_at_call 22; (with_reducible refine (HP.out _ hB1 e1 f1 HR.out).mono ?_); rintro e wq1 ⟨g, k, rfl, hf, hb⟩; have hB2 := bstep hB1 hb; have R2 := Lib.hid (keep hb R2.out); have R3 := Lib.hid (keep hb R3.out); have R4 := Lib.hid (keep hb R4.out); obtain ⟨R2c0, R2c1, R2c2⟩ := rowc3 R2.out; obtain ⟨R3c0, R3c1, R3c2⟩ := rowc3 R3.out; obtain ⟨R4f0, R4f1, R4f2, R4f3, R4f4, R4f5⟩ := row3 R4.out; have HK := Lib.hid hf; clear hb))
  all_goals
    go_wp2_with fail
    exact bodyPost_ret (res_c rfl q_row rfl (store3 R4.out _ _ _) rfl) rfl ⟨_, _, rfl, HK.out.store3 R4.out, store3_below hB2 (by omega) _ _ _⟩


set_option maxRecDepth 100000 in
set_option maxHeartbeats 4000000 in
theorem r3_Div (x y : Rat) (p d s t : Sl) (w : World) (hx : RQ w p d x) (hy : RQ w s t y) (zx : Sz 20000000 x) (zy : Sz 20000000 y) (h0 : y ≠ 0) :
    Calls Tryz.prog 147 #[qW (sgB x.num) p d, qW (sgB y.num) s t] w fun e w' => ∃ a c : Sl, e = .returned (qW (sgB (x / y).num) a c) ∧ RQ w' a c (x / y) ∧ Below w.heap.size w w' := by
  have HN := Lib.hid (fun W (hb : Below w.heap.size w W) => r3_Inv y s t W (hy.below hb) h0)
  have hP := fun W (hb : Below w.heap.size w W) e f he => r3_Mul x y⁻¹ p d e f W (hx.below hb) he (zx.mono (by decide)) ((sz_inv zy h0).mono (by decide))
  rw [← Rat.div_def] at hP
  have HP := Lib.hid hP
  clear hx hy hP
  generalize x / y = z at *
  generalize sgB z.num = bz at *
  generalize y⁻¹ = v at *
  generalize sgB v.num = bv at *
  generalize sgB x.num = b at *
  generalize sgB y.num = c at *
  go_enter Tryz.func147, Tryz.ntmps147
  go_wp2_with fail
  generalize hW : ((World.alloc w _).alloc _).alloc _ = W
  obtain ⟨hB, hsz, R2, R3, R4⟩ := A3 hW
  have R2 := Lib.hid R2
  have R3 := Lib.hid R3
  have R4 := Lib.hid R4
  clear hW hsz
  obtain ⟨R2c0, R2c1, R2c2⟩ := rowc3 R2.out
  obtain ⟨R3c0, R3c1, R3c2⟩ := rowc3 R3.out
  have hB0 := hB.drew
  go_region_held3 (fun w' => w'.cell? ⟨w.heap.size, 0, none⟩ = some (.bool b) ∧ w'.cell? ⟨w.heap.size, 1, none⟩ = some (.slice p.A p.n p.c) ∧ w'.cell? ⟨w.heap.size, 2, none⟩ = some (.slice d.A d.n d.c) ∧ w'.cell? ⟨w.heap.size + 1, 0, none⟩ = some (.bool c) ∧ w'.cell? ⟨w.heap.size + 1, 1, none⟩ = some (.slice s.A s.n s.c) ∧ w'.cell? ⟨w.heap.size + 1, 2, none⟩ = some (.slice t.A t.n t.c)) (first | exact ⟨R2c0, R2c1, R2c2, R3c0, R3c1, R3c2⟩ | exact ⟨by with_reducible assumption, by with_reducible assumption, by with_reducible assumption, by with_reducible assumption, by with_reducible assumption, by with_reducible assumption⟩ | exact ⟨cS3 (by omega) (by with_reducible assumption), cS3 (by omega) (by with_reducible assumption), cS3 (by omega) (by with_reducible assumption), cS3 (by omega) (by with_reducible assumption), cS3 (by omega) (by with_reducible assumption), cS3 (by omega) (by with_reducible assumption)⟩ | go_keep)
      (first
        | (go_at_call 174; (with_reducible refine (HN.out _ hB0).mono ?_); rintro e wq0 ⟨e1, f1, rfl, hr, hb⟩; have hB1 := bstep hB0 hb; have R2 := Lib.hid (keep hb R2.out); have R3 := Lib.hid (keep hb R3.out); have R4 := Lib.hid (keep hb R4.out); obtain ⟨R2c0, R2c1, R2c2⟩ := rowc3 R2.out; obtain ⟨R3c0, R3c1, R3c2⟩ := rowc3 R3.out; have HR := Lib.hid hr; clear hb)
        | (go_at_call 69; (with_reducible refine (HP.out _ hB1 e1 f1 HR.out).mono ?_); rintro e wq1 ⟨g, k, rfl, hf, hb⟩; have hB2 := bstep hB1 hb; have R2 := Lib.hid (keep hb R2.out); have R3 := Lib.hid (keep hb R3.out); have R4 := Lib.hid (keep hb R4.out); obtain ⟨R2c0, R2c1, R2c2⟩ := rowc3 R2.out; obtain ⟨R3c0, R3c1, R3c2⟩ := rowc3 R3.out; obtain ⟨R4f0, R4f1, R4f2, R4f3, R4f4, R4f5⟩ := row3 R4.out; have HK := Lib.hid hf; clear hb))
  all_goals
    go_wp2_with fail
    exact bodyPost_ret (res_c rfl q_row rfl (store3 R4.out _ _ _) rfl) rfl ⟨_, _, rfl, HK.out.store3 R4.out, store3_below hB2 (by omega) _ _ _⟩


theorem cmpQ_sign {x y : Rat} (h : x.num.sign ≠ y.num.sign) : cmpQ x y = if x.num.sign < y.num.sign then -1 else 1 := by
  have h1 := cmp_sign x.num x.den y.num y.den (by have := x.den_pos; omega) (by have := y.den_pos; omega) h
  unfold cmpQ
  rw [← h1]
  split <;> omega
set_option maxRecDepth 100000 in
set_option maxHeartbeats 4000000 in
theorem r3_Cmp_apart (x y : Rat) (p d s t : Sl) (w : World) (hx : RQ w p d x) (hy : RQ w s t y) (hs : x.num.sign ≠ y.num.sign) :
    Calls Tryz.prog 44 #[qW (sgB x.num) p d, qW (sgB y.num) s t] w fun e w' => e = .returned (.int .i64 (cmpQ x y)) ∧ Below w.heap.size w w' := by
  have HS1 := Lib.hid (fun W (hb : Below w.heap.size w W) => r3_Sign x p d W (hx.below hb))
  have HS2 := Lib.hid (fun W (hb : Below w.heap.size w W) => r3_Sign y s t W (hy.below hb))
  rw [cmpQ_sign hs]
  clear hx hy
  generalize x.num.sign = i at *
  generalize y.num.sign = j at *
  generalize sgB x.num = b at *
  generalize sgB y.num = c at *
  have hne : (i != j) = true := by rw [bne_iff_ne]; exact hs
  have hne2 : (i == j) = false := by rw [beq_eq_false_iff_ne]; exact hs
  obtain ⟨cc, hcc⟩ : ∃ cc : Int, cc = if i < j then -1 else 1 := ⟨_, rfl⟩
  have HQ1 : Hid (i < j → cc = -1) := Lib.hid (fun h => by rw [hcc, if_pos h])
  have HQ2 : Hid (¬ i < j → cc = 1) := Lib.hid (fun h => by rw [hcc, if_neg h])
  rw [← hcc]
  clear hcc
  go_enter Tryz.func44, Tryz.ntmps44
  go_wp2_with fail
  generalize hW : (World.alloc w _).alloc _ = W
  obtain ⟨hB, hsz, R2, R3⟩ := A2 hW
  have R2 := Lib.hid R2
  have R3 := Lib.hid R3
  clear hW hsz
  obtain ⟨R2c0, R2c1, R2c2⟩ := rowc3 R2.out
  obtain ⟨R3c0, R3c1, R3c2⟩ := rowc3 R3.out
  have hB0 := hB.drew
  go_region_held3 (fun w' => w'.cell? ⟨w.heap.size, 0, none⟩ = some (.bool b) ∧ w'.cell? ⟨w.heap.size, 1, none⟩ = some (.slice p.A p.n p.c) ∧ w'.cell? ⟨w.heap.size, 2, none⟩ = some (.slice d.A d.n d.c) ∧ w'.cell? ⟨w.heap.size + 1, 0, none⟩ = some (.bool c) ∧ w'.cell? ⟨w.heap.size + 1, 1, none⟩ = some (.slice s.A s.n s.c) ∧ w'.cell? ⟨w.heap.size + 1, 2, none⟩ = some (.slice t.A t.n t.c)) (first | exact ⟨R2c0, R2c1, R2c2, R3c0, R3c1, R3c2⟩ | exact ⟨by with_reducible assumption, by with_reducible assumption, by with_reducible assumption, by with_reducible assumption, by with_reducible assumption, by with_reducible assumption⟩ | exact ⟨cS3 (by omega) (by with_reducible assumption), cS3 (by omega) (by with_reducible assumption), cS3 (by omega) (by with_reducible assumption), cS3 (by omega) (by with_reducible assumption), cS3 (by omega) (by with_reducible assumption), cS3 (by omega) (by with_reducible assumption)⟩ | go_keep)
      (first
        | (go_at_call 16; (with_reducible refine (HS1.out _ hB0).mono ?_); rintro e wq0 ⟨rfl, hb⟩; have hB1 := bstep hB0 hb; have R2 := Lib.hid (keep hb R2.out); have R3 := Lib.hid (keep hb R3.out); obtain ⟨R2c0, R2c1, R2c2⟩ := rowc3 R2.out; obtain ⟨R3c0, R3c1, R3c2⟩ := rowc3 R3.out; clear hb)
        | (go_at_call 16; (with_reducible refine (HS2.out _ hB1).mono ?_); rintro e wq1 ⟨rfl, hb⟩; have hB2 := bstep hB1 hb; have R2 := Lib.hid (keep hb R2.out); have R3 := Lib.hid (keep hb R3.out); obtain ⟨R2c0, R2c1, R2c2⟩ := rowc3 R2.out; obtain ⟨R3c0, R3c1, R3c2⟩ := rowc3 R3.out; clear hb))
  all_goals
    by_cases hlt : i < j
    · have HQ := Lib.hid (HQ1.out (by omega))
      go_wp2_with fail
      go_ret
      exact ⟨ret_int HQ.out.symm, hB2⟩
    · have HQ := Lib.hid (HQ2.out (by omega))
      go_wp2_with fail
      go_ret
      exact ⟨ret_int HQ.out.symm, hB2⟩


set_option maxRecDepth 100000 in
set_option maxHeartbeats 8000000 in
theorem r3_Cmp_same (x y : Rat) (p d s t : Sl) (w : World) (hx : RQ w p d x) (hy : RQ w s t y) (zx : Sz 20000000 x) (zy : Sz 20000000 y) (hs : x.num.sign = y.num.sign) :
    Calls Tryz.prog 44 #[qW (sgB x.num) p d, qW (sgB y.num) s t] w fun e w' => e = .returned (.int .i64 (cmpQ x y)) ∧ Below w.heap.size w w' := by
  obtain ⟨a1, a2⟩ := zx
  obtain ⟨b1, b2⟩ := zy
  have m1 := nl_mulI x.num y.den
  have m2 := nl_mulI y.num x.den
  rw [Int.natAbs_natCast] at m1 m2
  have HS1 := Lib.hid (fun W (hb : Below w.heap.size w W) => r3_Sign x p d W (hx.below hb))
  have HS2 := Lib.hid (fun W (hb : Below w.heap.size w W) => r3_Sign y s t W (hy.below hb))
  have HT1 := Lib.hid (fun W (hb : Below w.heap.size w W) => n_Times p t _ _ W (hx.num.below hb) (hy.den.below hb) (by omega) (by omega))
  have HT2 := Lib.hid (fun W (hb : Below w.heap.size w W) => n_Times s d _ _ W (hy.num.below hb) (hx.den.below hb) (by omega) (by omega))
  have HM1 := Lib.hid (r2_MakeS (sgB_den x.num y.den))
  have HM2 := Lib.hid (r2_MakeS (sgB_den y.num x.den))
  have q1 : x.num.natAbs * y.den = (x.num * y.den).natAbs := by rw [Int.natAbs_mul, Int.natAbs_natCast]
  have q2 : y.num.natAbs * x.den = (y.num * x.den).natAbs := by rw [Int.natAbs_mul, Int.natAbs_natCast]
  have HC := Lib.hid (fun W rx ry hx hy => r2_Cmp (x.num * y.den) (y.num * x.den) rx ry W hx hy (by omega) (by omega))
  rw [q1] at HT1 HM1
  rw [q2] at HT2 HM2
  rw [hs] at HS1
  unfold cmpQ
  clear hx hy a1 a2 b1 b2 m1 m2 q1 q2 hs
  generalize cmpI (x.num * y.den) (y.num * x.den) = cc at *
  generalize (x.num * y.den).natAbs = kx at *
  generalize (y.num * x.den).natAbs = ky at *
  generalize sgB (x.num * y.den) = bx at *
  generalize sgB (y.num * x.den) = by_ at *
  generalize y.num.sign = j at *
  generalize sgB x.num = b at *
  generalize sgB y.num = c at *
  go_enter Tryz.func44, Tryz.ntmps44
  go_wp2_with fail
  generalize hW : (World.alloc w _).alloc _ = W
  obtain ⟨hB, hsz, R2, R3⟩ := A2 hW
  have R2 := Lib.hid R2
  have R3 := Lib.hid R3
  clear hW hsz
  obtain ⟨R2c0, R2c1, R2c2⟩ := rowc3 R2.out
  obtain ⟨R3c0, R3c1, R3c2⟩ := rowc3 R3.out
  have hB0 := hB.drew
  go_region_held3 (fun w' => w'.cell? ⟨w.heap.size, 0, none⟩ = some (.bool b) ∧ w'.cell? ⟨w.heap.size, 1, none⟩ = some (.slice p.A p.n p.c) ∧ w'.cell? ⟨w.heap.size, 2, none⟩ = some (.slice d.A d.n d.c) ∧ w'.cell? ⟨w.heap.size + 1, 0, none⟩ = some (.bool c) ∧ w'.cell? ⟨w.heap.size + 1, 1, none⟩ = some (.slice s.A s.n s.c) ∧ w'.cell? ⟨w.heap.size + 1, 2, none⟩ = some (.slice t.A t.n t.c)) (first | exact ⟨R2c0, R2c1, R2c2, R3c0, R3c1, R3c2⟩ | exact ⟨by with_reducible assumption, by with_reducible assumption, by with_reducible assumption, by with_reducible assumption, by with_reducible assumption, by with_reducible assumption⟩ | exact ⟨cS3 (by omega) (by with_reducible assumption), cS3 (by omega) (by with_reducible assumption), cS3 (by omega) (by with_reducible assumption), cS3 (by omega) (by with_reducible assumption), cS3 (by omega) (by with_reducible assumption), cS3 (by omega) (by with_reducible assumption)⟩ | go_keep)
      (first
        | (go_at_call 16; (with_reducible refine (HS1.out _ hB0).mono ?_); rintro e wq0 ⟨rfl, hb⟩; have hB1 := bstep hB0 hb; have R2 := Lib.hid (keep hb R2.out); have R3 := Lib.hid (keep hb R3.out); obtain ⟨R2c0, R2c1, R2c2⟩ := rowc3 R2.out; obtain ⟨R3c0, R3c1, R3c2⟩ := rowc3 R3.out; clear hb)
        | (go_at_call 16; (with_reducible refine (HS2.out _ hB1).mono ?_); rintro e wq1 ⟨rfl, hb⟩; have hB2 := bstep hB1 hb; have R2 := Lib.hid (keep hb R2.out); have R3 := Lib.hid (keep hb R3.out); obtain ⟨R2c0, R2c1, R2c2⟩ := rowc3 R2.out; obtain ⟨R3c0, R3c1, R3c2⟩ := rowc3 R3.out; clear hb))
  all_goals
    have hB := hB2
    go_wp2_with fail
    go_cut [7] (fun x wc => ∃ (g : Nat) (r : Sl), x = .pointer (some ⟨g, 0, none⟩) ∧ Hid (wc.heap[g]? = some (.cells #[.bool bx, .slice r.A r.n r.c] 43 (0, 0))) ∧ Hid (RN wc r kx) ∧ Hid (wc.heap[w.heap.size]? = some (.cells #[.bool b, .slice p.A p.n p.c, .slice d.A d.n d.c] 45 (0, 0))) ∧ Hid (wc.heap[w.heap.size + 1]? = some (.cells #[.bool c, .slice s.A s.n s.c, .slice t.A t.n t.c] 45 (0, 0))) ∧ Below w.heap.size w wc ∧ w.heap.size + 1 < g)
    case first =>
      obtain ⟨R2c0, R2c1, R2c2⟩ := rowc3 R2.out
      obtain ⟨R3c0, R3c1, R3c2⟩ := rowc3 R3.out
      have lw0 := lt_of_row R3.out
      have hB0 := hB.drew
      go_region_held3 (fun w' => w'.cell? ⟨w.heap.size, 0, none⟩ = some (.bool b) ∧ w'.cell? ⟨w.heap.size, 1, none⟩ = some (.slice p.A p.n p.c) ∧ w'.cell? ⟨w.heap.size + 1, 2, none⟩ = some (.slice t.A t.n t.c)) (first | exact ⟨R2c0, R2c1, R3c2⟩ | exact ⟨(by with_reducible assumption), (by with_reducible assumption), (by with_reducible assumption)⟩ | exact ⟨cellAD R2c0, cellAD R2c1, cellAD R3c2⟩ | exact ⟨cellA (by with_reducible assumption), cellA (by with_reducible assumption), cellA (by with_reducible assumption)⟩ | exact ⟨cS2 (by omega) (by with_reducible assumption), cS2 (by omega) (by with_reducible assumption), cS2 (by omega) (by with_reducible assumption)⟩ | go_keep)
          (first
            | (go_at_call 68; (with_reducible refine (HT1.out _ (by first | exact hB0 | exact bstep hB0 (A1 rfl).1 | exact (bstep hB (A1 rfl).1).drew)).mono ?_); rintro e wq0 ⟨rr, rfl, hr, hb⟩; have hB1 : Below w.heap.size w wq0 := (by first | exact bstep hB0 hb | exact bstep (bstep hB0 (A1 rfl).1) hb | exact bstep (bstep hB (A1 rfl).1).drew hb); (first | (with_reducible have R2 := Lib.hid (keep hb R2.out)) | (with_reducible have R2 := Lib.hid (keep hb (old1 R2.out))) | (with_reducible have R2 := Lib.hid (keep hb (oldD R2.out))) | (with_reducible have R2 := Lib.hid (keep hb (old1D R2.out)))); (first | (with_reducible have R3 := Lib.hid (keep hb R3.out)) | (with_reducible have R3 := Lib.hid (keep hb (old1 R3.out))) | (with_reducible have R3 := Lib.hid (keep hb (oldD R3.out))) | (with_reducible have R3 := Lib.hid (keep hb (old1D R3.out)))); (first | (have RNw := Lib.hid (keep hb RNw.out)) | (with_reducible have RNw := Lib.hid (keep hb (heap_alloc_new _ _))) | (with_reducible have RNw := Lib.hid (keep hb (newD _ _))) | skip); obtain ⟨R2c0, R2c1, R2c2⟩ := rowc3 R2.out; obtain ⟨R3c0, R3c1, R3c2⟩ := rowc3 R3.out; have lw1 := lt_of_row R3.out; (first | (have RNx := row2 RNw.out; obtain ⟨RNf0, RNf1, RNf2, RNf3⟩ := RNx) | skip); have HR := Lib.hid hr; clear hb)
            | (go_at_call 67; (with_reducible refine (HM1.out _ rr (by first | exact HR.out | exact HR.out.below (A1 rfl).1)).mono ?_); rintro e wq1 ⟨rfl, hb⟩; have hB2 : Below w.heap.size w wq1 := (by first | exact bstep hB1 hb | exact bstep (bstep hB1 (A1 rfl).1) hb | exact bstep (bstep hB1 (A1 rfl).1).drew hb); (first | (with_reducible have R2 := Lib.hid (keep hb R2.out)) | (with_reducible have R2 := Lib.hid (keep hb (old1 R2.out))) | (with_reducible have R2 := Lib.hid (keep hb (oldD R2.out))) | (with_reducible have R2 := Lib.hid (keep hb (old1D R2.out)))); (first | (with_reducible have R3 := Lib.hid (keep hb R3.out)) | (with_reducible have R3 := Lib.hid (keep hb (old1 R3.out))) | (with_reducible have R3 := Lib.hid (keep hb (oldD R3.out))) | (with_reducible have R3 := Lib.hid (keep hb (old1D R3.out)))); (first | (have RNw := Lib.hid (keep hb RNw.out)) | (with_reducible have RNw := Lib.hid (keep hb (heap_alloc_new _ _))) | (with_reducible have RNw := Lib.hid (keep hb (newD _ _))) | skip); obtain ⟨R2c0, R2c1, R2c2⟩ := rowc3 R2.out; obtain ⟨R3c0, R3c1, R3c2⟩ := rowc3 R3.out; have lw2 := lt_of_row R3.out; (first | (have RNx := row2 RNw.out; obtain ⟨RNf0, RNf1, RNf2, RNf3⟩ := RNx) | skip); (first | (with_reducible have HK := Lib.hid (HR.out.below hb)) | (have HK := Lib.hid ((HR.out.below (A1 rfl).1).below hb))); clear hb))
      all_goals
        go_wp2_with fail
        go_meet
        first
        | exact ⟨_, _, rfl, Lib.hid (heap_alloc_new _ _), Lib.hid (HK.out.below (A1 rfl).1), Lib.hid (old1 R2.out), Lib.hid (old1 R3.out), bstep hB2 (A1 rfl).1, by omega⟩
        | exact ⟨_, _, rfl, Lib.hid (store2 RNw.out _ _), Lib.hid (HK.out.store2 RNw.out), Lib.hid (store2_other (by omega) R2.out _ _), Lib.hid (store2_other (by omega) R3.out _ _), store2_below hB2 (by omega) _ _, by omega⟩
    case rest =>
      obtain ⟨g1, rg1, rfl, Rg1, HKg1, R2, R3, hB, hpg1⟩ := hcut
      go_wp2_with fail
      go_cut [8] (fun x wc => ∃ (g : Nat) (r : Sl), x = .pointer (some ⟨g, 0, none⟩) ∧ Hid (wc.heap[g]? = some (.cells #[.bool by_, .slice r.A r.n r.c] 43 (0, 0))) ∧ Hid (RN wc r ky) ∧ Hid (RN wc rg1 kx) ∧ Hid (wc.heap[w.heap.size]? = some (.cells #[.bool b, .slice p.A p.n p.c, .slice d.A d.n d.c] 45 (0, 0))) ∧ Hid (wc.heap[w.heap.size + 1]? = some (.cells #[.bool c, .slice s.A s.n s.c, .slice t.A t.n t.c] 45 (0, 0))) ∧ Hid (wc.heap[g1]? = some (.cells #[.bool bx, .slice rg1.A rg1.n rg1.c] 43 (0, 0))) ∧ Below w.heap.size w wc ∧ g1 < g)
      case first =>
        obtain ⟨R2c0, R2c1, R2c2⟩ := rowc3 R2.out
        obtain ⟨R3c0, R3c1, R3c2⟩ := rowc3 R3.out
        have lw0 := lt_of_row Rg1.out
        have hB0 := hB.drew
        go_region_held3 (fun w' => w'.cell? ⟨w.heap.size + 1, 0, none⟩ = some (.bool c) ∧ w'.cell? ⟨w.heap.size + 1, 1, none⟩ = some (.slice s.A s.n s.c) ∧ w'.cell? ⟨w.heap.size, 2, none⟩ = some (.slice d.A d.n d.c)) (first | exact ⟨R3c0, R3c1, R2c2⟩ | exact ⟨(by with_reducible assumption), (by with_reducible assumption), (by with_reducible assumption)⟩ | exact ⟨cellAD R3c0, cellAD R3c1, cellAD R2c2⟩ | exact ⟨cellA (by with_reducible assumption), cellA (by with_reducible assumption), cellA (by with_reducible assumption)⟩ | exact ⟨cS2 (by omega) (by with_reducible assumption), cS2 (by omega) (by with_reducible assumption), cS2 (by omega) (by with_reducible assumption)⟩ | go_keep)
            (first
              | (go_at_call 68; (with_reducible refine (HT2.out _ (by first | exact hB0 | exact bstep hB0 (A1 rfl).1 | exact (bstep hB (A1 rfl).1).drew)).mono ?_); rintro e wq0 ⟨rr, rfl, hr, hb⟩; have hB1 : Below w.heap.size w wq0 := (by first | exact bstep hB0 hb | exact bstep (bstep hB0 (A1 rfl).1) hb | exact bstep (bstep hB (A1 rfl).1).drew hb); (first | (with_reducible have R2 := Lib.hid (keep hb R2.out)) | (with_reducible have R2 := Lib.hid (keep hb (old1 R2.out))) | (with_reducible have R2 := Lib.hid (keep hb (oldD R2.out))) | (with_reducible have R2 := Lib.hid (keep hb (old1D R2.out)))); (first | (with_reducible have R3 := Lib.hid (keep hb R3.out)) | (with_reducible have R3 := Lib.hid (keep hb (old1 R3.out))) | (with_reducible have R3 := Lib.hid (keep hb (oldD R3.out))) | (with_reducible have R3 := Lib.hid (keep hb (old1D R3.out)))); (first | (with_reducible have Rg1 := Lib.hid (keep hb Rg1.out)) | (with_reducible have Rg1 := Lib.hid (keep hb (old1 Rg1.out))) | (with_reducible have Rg1 := Lib.hid (keep hb (oldD Rg1.out))) | (with_reducible have Rg1 := Lib.hid (keep hb (old1D Rg1.out)))); (first | (have RNw := Lib.hid (keep hb RNw.out)) | (with_reducible have RNw := Lib.hid (keep hb (heap_alloc_new _ _))) | (with_reducible have RNw := Lib.hid (keep hb (newD _ _))) | skip); obtain ⟨R2c0, R2c1, R2c2⟩ := rowc3 R2.out; obtain ⟨R3c0, R3c1, R3c2⟩ := rowc3 R3.out; have lw1 := lt_of_row Rg1.out; (first | (have RNx := row2 RNw.out; obtain ⟨RNf0, RNf1, RNf2, RNf3⟩ := RNx) | skip); have HR := Lib.hid hr; (first | (with_reducible have HKg1 := Lib.hid (HKg1.out.below hb)) | (with_reducible have HKg1 := Lib.hid (HKg1.out.drewR.below hb)) | (with_reducible have HKg1 := Lib.hid ((HKg1.out.below (A1 rfl).1).below hb)) | (with_reducible have HKg1 := Lib.hid ((HKg1.out.below (A1 rfl).1).drewR.below hb))); clear hb)
              | (go_at_call 67; (with_reducible refine (HM2.out _ rr (by first | exact HR.out | exact HR.out.below (A1 rfl).1)).mono ?_); rintro e wq1 ⟨rfl, hb⟩; have hB2 : Below w.heap.size w wq1 := (by first | exact bstep hB1 hb | exact bstep (bstep hB1 (A1 rfl).1) hb | exact bstep (bstep hB1 (A1 rfl).1).drew hb); (first | (with_reducible have R2 := Lib.hid (keep hb R2.out)) | (with_reducible have R2 := Lib.hid (keep hb (old1 R2.out))) | (with_reducible have R2 := Lib.hid (keep hb (oldD R2.out))) | (with_reducible have R2 := Lib.hid (keep hb (old1D R2.out)))); (first | (with_reducible have R3 := Lib.hid (keep hb R3.out)) | (with_reducible have R3 := Lib.hid (keep hb (old1 R3.out))) | (with_reducible have R3 := Lib.hid (keep hb (oldD R3.out))) | (with_reducible have R3 := Lib.hid (keep hb (old1D R3.out)))); (first | (with_reducible have Rg1 := Lib.hid (keep hb Rg1.out)) | (with_reducible have Rg1 := Lib.hid (keep hb (old1 Rg1.out))) | (with_reducible have Rg1 := Lib.hid (keep hb (oldD Rg1.out))) | (with_reducible have Rg1 := Lib.hid (keep hb (old1D Rg1.out)))); (first | (have RNw := Lib.hid (keep hb RNw.out)) | (with_reducible have RNw := Lib.hid (keep hb (heap_alloc_new _ _))) | (with_reducible have RNw := Lib.hid (keep hb (newD _ _))) | skip); obtain ⟨R2c0, R2c1, R2c2⟩ := rowc3 R2.out; obtain ⟨R3c0, R3c1, R3c2⟩ := rowc3 R3.out; have lw2 := lt_of_row Rg1.out; (first | (have RNx := row2 RNw.out; obtain ⟨RNf0, RNf1, RNf2, RNf3⟩ := RNx) | skip); (first | (with_reducible have HKg1 := Lib.hid (HKg1.out.below hb)) | (with_reducible have HKg1 := Lib.hid (HKg1.out.drewR.below hb)) | (with_reducible have HKg1 := Lib.hid ((HKg1.out.below (A1 rfl).1).below hb)) | (with_reducible have HKg1 := Lib.hid ((HKg1.out.below (A1 rfl).1).drewR.below hb))); (first | (with_reducible have HK := Lib.hid (HR.out.below hb)) | (have HK := Lib.hid ((HR.out.below (A1 rfl).1).below hb))); clear hb))
        all_goals
          go_wp2_with fail
          go_meet
          first
          | exact ⟨_, _, rfl, Lib.hid (heap_alloc_new _ _), Lib.hid (HK.out.below (A1 rfl).1), Lib.hid (HKg1.out.below (A1 rfl).1), Lib.hid (old1 R2.out), Lib.hid (old1 R3.out), Lib.hid (old1 Rg1.out), bstep hB2 (A1 rfl).1, by omega⟩
          | exact ⟨_, _, rfl, Lib.hid (store2 RNw.out _ _), Lib.hid (HK.out.store2 RNw.out), Lib.hid (HKg1.out.store2 RNw.out), Lib.hid (store2_other (by omega) R2.out _ _), Lib.hid (store2_other (by omega) R3.out _ _), Lib.hid (store2_other (by omega) Rg1.out _ _), store2_below hB2 (by omega) _ _, by omega⟩
      case rest =>
        obtain ⟨g2, rg2, rfl, Rg2, HKg2, HKg1, R2, R3, Rg1, hB, hpg2⟩ := hcut
        obtain ⟨v1, v2, v3, v4⟩ := row2 Rg1.out
        obtain ⟨u1, u2, u3, u4⟩ := row2 Rg2.out
        go_wp2_with fail
        refine (HC.out _ rg1 rg2 HKg1.out HKg2.out).mono ?_
        rintro e w9 ⟨rfl, hb⟩
        replace hB := bstep hB hb
        clear hb v1 v2 v3 v4 u1 u2 u3 u4
        go_wp2_with fail
        go_ret
        exact ⟨rfl, hB⟩


theorem r3_Cmp (x y : Rat) (p d s t : Sl) (w : World) (hx : RQ w p d x) (hy : RQ w s t y) (zx : Sz 20000000 x) (zy : Sz 20000000 y) :
    Calls Tryz.prog 44 #[qW (sgB x.num) p d, qW (sgB y.num) s t] w fun e w' => e = .returned (.int .i64 (cmpQ x y)) ∧ Below w.heap.size w w' := by
  by_cases hs : x.num.sign = y.num.sign
  · exact r3_Cmp_same x y p d s t w hx hy zx zy hs
  · exact r3_Cmp_apart x y p d s t w hx hy hs
end Go.Proofs.YthkkdepppjiaeaaGreatDoor
