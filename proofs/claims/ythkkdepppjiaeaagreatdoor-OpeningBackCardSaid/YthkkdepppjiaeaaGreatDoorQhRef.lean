/- Walks of the reference of layer 3: Add, Sub, Div, Cmp, Least, Most. -/
import Derived.Test.YthkkdepppjiaeaaGreatDoorQgRef
import Derived.Test.YthkkdepppjiaeaaGreatDoorPmVector
namespace Go.Proofs.YthkkdepppjiaeaaGreatDoor
open Go.RowKit Go.Shelf Go.Sort

attribute [local go_sem] Oper.semAt_some

theorem cellAD {w : World} {a : Addr} {v : Value} {o : Obj} (h : w.cell? a = some v) : ((w.alloc o).drew).cell? a = some v := cellA (w := w) h
theorem RN.drewR {w : World} {s : Sl} {n : Nat} (h : RN w s n) : RN w.drew s n := h
theorem sgB_den (x : Int) (n : Nat) : (if sgB x = true then -((x.natAbs * n : Nat) : Int) else (x.natAbs * n : Nat)) = x * n := by
  unfold sgB
  by_cases hx : x < 0
  · rw [if_pos (decide_eq_true hx), Int.natCast_mul, show (x.natAbs : Int) = -x by omega]; grind
  · rw [if_neg (by rw [decide_eq_false hx]; decide), Int.natCast_mul, show (x.natAbs : Int) = x by omega]


set_option maxRecDepth 100000 in
set_option maxHeartbeats 8000000 in
theorem r3_Add_two (x y : Rat) (p d s t : Sl) (w : World) (hx : RQ w p d x) (hy : RQ w s t y) (zx : Sz 20000000 x) (zy : Sz 20000000 y) (hd : x.den ≠ y.den) :
    Calls Tryz.prog 22 #[qW (sgB x.num) p d, qW (sgB y.num) s t] w fun e w' => ∃ a c : Sl, e = .returned (qW (sgB (x + y).num) a c) ∧ RQ w' a c (x + y) ∧ Below w.heap.size w w' := by
  obtain ⟨a1, a2⟩ := zx
  obtain ⟨b1, b2⟩ := zy
  have m1 := nl_mulI x.num y.den
  have m2 := nl_mulI y.num x.den
  have m3 := nl_addI (x.num * y.den) (y.num * x.den)
  have m4 := nl_mul x.den y.den
  rw [Int.natAbs_natCast] at m1 m2
  have hC := fun W (hb : Below w.heap.size w W) => n_Cmp d t _ _ W (hx.den.below hb) (hy.den.below hb)
  obtain ⟨cc, hcc⟩ : ∃ cc, cc = cmpI (x.den : Int) (y.den : Int) := ⟨_, rfl⟩
  rw [← hcc] at hC
  have hc0 : (cc == 0) = false := by
    rw [beq_eq_false_iff_ne, hcc]; unfold cmpI
    rcases Nat.lt_or_gt_of_ne hd with h | h
    · rw [if_pos (by omega)]; decide
    · rw [if_neg (by omega), if_pos (by omega)]; decide
  have HC := Lib.hid hC
  have HT1 := Lib.hid (fun W (hb : Below w.heap.size w W) => n_Times p t _ _ W (hx.num.below hb) (hy.den.below hb) (by omega) (by omega))
  have HT2 := Lib.hid (fun W (hb : Below w.heap.size w W) => n_Times s d _ _ W (hy.num.below hb) (hx.den.below hb) (by omega) (by omega))
  have HM1 := Lib.hid (r2_MakeS (sgB_den x.num y.den))
  have HM2 := Lib.hid (r2_MakeS (sgB_den y.num x.den))
  have q1 : x.num.natAbs * y.den = (x.num * y.den).natAbs := by rw [Int.natAbs_mul, Int.natAbs_natCast]
  have q2 : y.num.natAbs * x.den = (y.num * x.den).natAbs := by rw [Int.natAbs_mul, Int.natAbs_natCast]
  have HP := Lib.hid (fun W rx ry hx hy => r2_Plus (x.num * y.den) (y.num * x.den) rx ry W hx hy (by omega) (by omega))
  have HN := Lib.hid (fun W (hb : Below w.heap.size w W) => n_Times d t _ _ W (hx.den.below hb) (hy.den.below hb) (by omega) (by omega))
  have hL := fun W r u hr hu => r3_lowest (x.num * y.den + y.num * x.den) (x.den * y.den) r u W hr hu (by omega) (by omega) (Nat.mul_ne_zero x.den_nz y.den_nz)
  rw [add_val] at hL
  have HL := Lib.hid hL
  rw [q1] at HT1 HM1
  rw [q2] at HT2 HM2
  clear hx hy a1 a2 b1 b2 m1 m2 m3 m4 hL hC hd hcc q1 q2
  generalize x.den * y.den = m at *
  generalize (x.num * y.den + y.num * x.den).natAbs = k at *
  generalize sgB (x.num * y.den + y.num * x.den) = bm at *
  generalize (x.num * y.den).natAbs = kx at *
  generalize (y.num * x.den).natAbs = ky at *
  generalize sgB (x.num * y.den) = bx at *
  generalize sgB (y.num * x.den) = by_ at *
  generalize x + y = z at *
  generalize sgB z.num = bz at *
  generalize sgB x.num = b at *
  generalize sgB y.num = c at *
  go_enter Tryz.func22, Tryz.ntmps22
  go_wp2_with fail
  generalize hW : ((World.alloc w _).alloc _).alloc _ = W
  obtain ⟨hB, hsz, R2, R3, R4⟩ := A3 hW
  have R2 := Lib.hid R2
  have R3 := Lib.hid R3
  have R4 := Lib.hid R4
  clear hW hsz
  refine (HC.out _ hB).mono ?_
  rintro e w1 ⟨rfl, hb⟩
  replace hB := bstep hB hb
  have R2 := Lib.hid (keep hb R2.out)
  have R3 := Lib.hid (keep hb R3.out)
  have R4 := Lib.hid (keep hb R4.out)
  clear hb
  go_wp2_with fail
  go_cut [5] (fun x wc => ∃ (g : Nat) (r : Sl), x = .pointer (some ⟨g, 0, none⟩) ∧ Hid (wc.heap[g]? = some (.cells #[.bool bx, .slice r.A r.n r.c] 43 (0, 0))) ∧ Hid (RN wc r kx) ∧ Hid (wc.heap[w.heap.size]? = some (.cells #[.bool b, .slice p.A p.n p.c, .slice d.A d.n d.c] 45 (0, 0))) ∧ Hid (wc.heap[w.heap.size + 1]? = some (.cells #[.bool c, .slice s.A s.n s.c, .slice t.A t.n t.c] 45 (0, 0))) ∧ Hid (wc.heap[w.heap.size + 2]? = some (.cells #[.bool false, .slice none 0 0, .slice none 0 0] 45 (0, 0))) ∧ Below w.heap.size w wc ∧ w.heap.size + 2 < g)
  case first =>
    obtain ⟨R2c0, R2c1, R2c2⟩ := rowc3 R2.out
    obtain ⟨R3c0, R3c1, R3c2⟩ := rowc3 R3.out
    have lw0 := lt_of_row R4.out
    have hB0 := hB.drew
    go_region_held3 (fun w' => w'.cell? ⟨w.heap.size, 0, none⟩ = some (.bool b) ∧ w'.cell? ⟨w.heap.size, 1, none⟩ = some (.slice p.A p.n p.c) ∧ w'.cell? ⟨w.heap.size + 1, 2, none⟩ = some (.slice t.A t.n t.c)) (first | exact ⟨R2c0, R2c1, R3c2⟩ | exact ⟨(by with_reducible assumption), (by with_reducible assumption), (by with_reducible assumption)⟩ | exact ⟨cellAD R2c0, cellAD R2c1, cellAD R3c2⟩ | exact ⟨cellA (by with_reducible assumption), cellA (by with_reducible assumption), cellA (by with_reducible assumption)⟩ | exact ⟨cS2 (by omega) (by with_reducible assumption), cS2 (by omega) (by with_reducible assumption), cS2 (by omega) (by with_reducible assumption)⟩ | go_keep)
        (first
          | (go_at_call 68; (with_reducible refine (HT1.out _ (by first | exact hB0 | exact bstep hB0 (A1 rfl).1 | exact (bstep hB (A1 rfl).1).drew)).mono ?_); rintro e wq0 ⟨rr, rfl, hr, hb⟩; have hB1 : Below w.heap.size w wq0 := (by first | exact bstep hB0 hb | exact bstep (bstep hB0 (A1 rfl).1) hb | exact bstep (bstep hB (A1 rfl).1).drew hb); (first | (with_reducible have R2 := Lib.hid (keep hb R2.out)) | (with_reducible have R2 := Lib.hid (keep hb (old1 R2.out))) | (with_reducible have R2 := Lib.hid (keep hb (oldD R2.out))) | (with_reducible have R2 := Lib.hid (keep hb (old1D R2.out)))); (first | (with_reducible have R3 := Lib.hid (keep hb R3.out)) | (with_reducible have R3 := Lib.hid (keep hb (old1 R3.out))) | (with_reducible have R3 := Lib.hid (keep hb (oldD R3.out))) | (with_reducible have R3 := Lib.hid (keep hb (old1D R3.out)))); (first | (with_reducible have R4 := Lib.hid (keep hb R4.out)) | (with_reducible have R4 := Lib.hid (keep hb (old1 R4.out))) | (with_reducible have R4 := Lib.hid (keep hb (oldD R4.out))) | (with_reducible have R4 := Lib.hid (keep hb (old1D R4.out)))); (first | (have RNw := Lib.hid (keep hb RNw.out)) | (with_reducible have RNw := Lib.hid (keep hb (heap_alloc_new _ _))) | (with_reducible have RNw := Lib.hid (keep hb (newD _ _))) | skip); obtain ⟨R2c0, R2c1, R2c2⟩ := rowc3 R2.out; obtain ⟨R3c0, R3c1, R3c2⟩ := rowc3 R3.out; have lw1 := lt_of_row R4.out; (first | (have RNx := row2 RNw.out; obtain ⟨RNf0, RNf1, RNf2, RNf3⟩ := RNx) | skip); have HR := Lib.hid hr; clear hb)
          | (go_at_call 67; (with_reducible refine (HM1.out _ rr (by first | exact HR.out | exact HR.out.below (A1 rfl).1)).mono ?_); rintro e wq1 ⟨rfl, hb⟩; have hB2 : Below w.heap.size w wq1 := (by first | exact bstep hB1 hb | exact bstep (bstep hB1 (A1 rfl).1) hb | exact bstep (bstep hB1 (A1 rfl).1).drew hb); (first | (with_reducible have R2 := Lib.hid (keep hb R2.out)) | (with_reducible have R2 := Lib.hid (keep hb (old1 R2.out))) | (with_reducible have R2 := Lib.hid (keep hb (oldD R2.out))) | (with_reducible have R2 := Lib.hid (keep hb (old1D R2.out)))); (first | (with_reducible have R3 := Lib.hid (keep hb R3.out)) | (with_reducible have R3 := Lib.hid (keep hb (old1 R3.out))) | (with_reducible have R3 := Lib.hid (keep hb (oldD R3.out))) | (with_reducible have R3 := Lib.hid (keep hb (old1D R3.out)))); (first | (with_reducible have R4 := Lib.hid (keep hb R4.out)) | (with_reducible have R4 := Lib.hid (keep hb (old1 R4.out))) | (with_reducible have R4 := Lib.hid (keep hb (oldD R4.out))) | (with_reducible have R4 := Lib.hid (keep hb (old1D R4.out)))); (first | (have RNw := Lib.hid (keep hb RNw.out)) | (with_reducible have RNw := Lib.hid (keep hb (heap_alloc_new _ _))) | (with_reducible have RNw := Lib.hid (keep hb (newD _ _))) | skip); obtain ⟨R2c0, R2c1, R2c2⟩ := rowc3 R2.out; obtain ⟨R3c0, R3c1, R3c2⟩ := rowc3 R3.out; have lw2 := lt_of_row R4.out; (first | (have RNx := row2 RNw.out; obtain ⟨RNf0, RNf1, RNf2, RNf3⟩ := RNx) | skip); (first | (with_reducible have HK := Lib.hid (HR.out.below hb)) | (have HK := Lib.hid ((HR.out.below (A1 rfl).1).below hb))); clear hb))
    all_goals
      go_wp2_with fail
      go_meet
      first
      | exact ⟨_, _, rfl, Lib.hid (heap_alloc_new _ _), Lib.hid (HK.out.below (A1 rfl).1), Lib.hid (old1 R2.out), Lib.hid (old1 R3.out), Lib.hid (old1 R4.out), bstep hB2 (A1 rfl).1, by omega⟩
      | exact ⟨_, _, rfl, Lib.hid (store2 RNw.out _ _), Lib.hid (HK.out.store2 RNw.out), Lib.hid (store2_other (by omega) R2.out _ _), Lib.hid (store2_other (by omega) R3.out _ _), Lib.hid (store2_other (by omega) R4.out _ _), store2_below hB2 (by omega) _ _, by omega⟩
  case rest =>
    obtain ⟨g1, rg1, rfl, Rg1, HKg1, R2, R3, R4, hB, hpg1⟩ := hcut
    go_wp2_with fail
    go_cut [6] (fun x wc => ∃ (g : Nat) (r : Sl), x = .pointer (some ⟨g, 0, none⟩) ∧ Hid (wc.heap[g]? = some (.cells #[.bool by_, .slice r.A r.n r.c] 43 (0, 0))) ∧ Hid (RN wc r ky) ∧ Hid (RN wc rg1 kx) ∧ Hid (wc.heap[w.heap.size]? = some (.cells #[.bool b, .slice p.A p.n p.c, .slice d.A d.n d.c] 45 (0, 0))) ∧ Hid (wc.heap[w.heap.size + 1]? = some (.cells #[.bool c, .slice s.A s.n s.c, .slice t.A t.n t.c] 45 (0, 0))) ∧ Hid (wc.heap[w.heap.size + 2]? = some (.cells #[.bool false, .slice none 0 0, .slice none 0 0] 45 (0, 0))) ∧ Hid (wc.heap[g1]? = some (.cells #[.bool bx, .slice rg1.A rg1.n rg1.c] 43 (0, 0))) ∧ Below w.heap.size w wc ∧ g1 < g)
    case first =>
      obtain ⟨R2c0, R2c1, R2c2⟩ := rowc3 R2.out
      obtain ⟨R3c0, R3c1, R3c2⟩ := rowc3 R3.out
      have lw0 := lt_of_row Rg1.out
      have hB0 := hB.drew
      go_region_held3 (fun w' => w'.cell? ⟨w.heap.size + 1, 0, none⟩ = some (.bool c) ∧ w'.cell? ⟨w.heap.size + 1, 1, none⟩ = some (.slice s.A s.n s.c) ∧ w'.cell? ⟨w.heap.size, 2, none⟩ = some (.slice d.A d.n d.c)) (first | exact ⟨R3c0, R3c1, R2c2⟩ | exact ⟨(by with_reducible assumption), (by with_reducible assumption), (by with_reducible assumption)⟩ | exact ⟨cellAD R3c0, cellAD R3c1, cellAD R2c2⟩ | exact ⟨cellA (by with_reducible assumption), cellA (by with_reducible assumption), cellA (by with_reducible assumption)⟩ | exact ⟨cS2 (by omega) (by with_reducible assumption), cS2 (by omega) (by with_reducible assumption), cS2 (by omega) (by with_reducible assumption)⟩ | go_keep)
          (first
            | (go_at_call 68; (with_reducible refine (HT2.out _ (by first | exact hB0 | exact bstep hB0 (A1 rfl).1 | exact (bstep hB (A1 rfl).1).drew)).mono ?_); rintro e wq0 ⟨rr, rfl, hr, hb⟩; have hB1 : Below w.heap.size w wq0 := (by first | exact bstep hB0 hb | exact bstep (bstep hB0 (A1 rfl).1) hb | exact bstep (bstep hB (A1 rfl).1).drew hb); (first | (with_reducible have R2 := Lib.hid (keep hb R2.out)) | (with_reducible have R2 := Lib.hid (keep hb (old1 R2.out))) | (with_reducible have R2 := Lib.hid (keep hb (oldD R2.out))) | (with_reducible have R2 := Lib.hid (keep hb (old1D R2.out)))); (first | (with_reducible have R3 := Lib.hid (keep hb R3.out)) | (with_reducible have R3 := Lib.hid (keep hb (old1 R3.out))) | (with_reducible have R3 := Lib.hid (keep hb (oldD R3.out))) | (with_reducible have R3 := Lib.hid (keep hb (old1D R3.out)))); (first | (with_reducible have R4 := Lib.hid (keep hb R4.out)) | (with_reducible have R4 := Lib.hid (keep hb (old1 R4.out))) | (with_reducible have R4 := Lib.hid (keep hb (oldD R4.out))) | (with_reducible have R4 := Lib.hid (keep hb (old1D R4.out)))); (first | (with_reducible have Rg1 := Lib.hid (keep hb Rg1.out)) | (with_reducible have Rg1 := Lib.hid (keep hb (old1 Rg1.out))) | (with_reducible have Rg1 := Lib.hid (keep hb (oldD Rg1.out))) | (with_reducible have Rg1 := Lib.hid (keep hb (old1D Rg1.out)))); (first | (have RNw := Lib.hid (keep hb RNw.out)) | (with_reducible have RNw := Lib.hid (keep hb (heap_alloc_new _ _))) | (with_reducible have RNw := Lib.hid (keep hb (newD _ _))) | skip); obtain ⟨R2c0, R2c1, R2c2⟩ := rowc3 R2.out; obtain ⟨R3c0, R3c1, R3c2⟩ := rowc3 R3.out; have lw1 := lt_of_row Rg1.out; (first | (have RNx := row2 RNw.out; obtain ⟨RNf0, RNf1, RNf2, RNf3⟩ := RNx) | skip); have HR := Lib.hid hr; (first | (with_reducible have HKg1 := Lib.hid (HKg1.out.below hb)) | (with_reducible have HKg1 := Lib.hid (HKg1.out.drewR.below hb)) | (with_reducible have HKg1 := Lib.hid ((HKg1.out.below (A1 rfl).1).below hb)) | (with_reducible have HKg1 := Lib.hid ((HKg1.out.below (A1 rfl).1).drewR.below hb))); clear hb)
            | (go_at_call 67; (with_reducible refine (HM2.out _ rr (by first | exact HR.out | exact HR.out.below (A1 rfl).1)).mono ?_); rintro e wq1 ⟨rfl, hb⟩; have hB2 : Below w.heap.size w wq1 := (by first | exact bstep hB1 hb | exact bstep (bstep hB1 (A1 rfl).1) hb | exact bstep (bstep hB1 (A1 rfl).1).drew hb); (first | (with_reducible have R2 := Lib.hid (keep hb R2.out)) | (with_reducible have R2 := Lib.hid (keep hb (old1 R2.out))) | (with_reducible have R2 := Lib.hid (keep hb (oldD R2.out))) | (with_reducible have R2 := Lib.hid (keep hb (old1D R2.out)))); (first | (with_reducible have R3 := Lib.hid (keep hb R3.out)) | (with_reducible have R3 := Lib.hid (keep hb (old1 R3.out))) | (with_reducible have R3 := Lib.hid (keep hb (oldD R3.out))) | (with_reducible have R3 := Lib.hid (keep hb (old1D R3.out)))); (first | (with_reducible have R4 := Lib.hid (keep hb R4.out)) | (with_reducible have R4 := Lib.hid (keep hb (old1 R4.out))) | (with_reducible have R4 := Lib.hid (keep hb (oldD R4.out))) | (with_reducible have R4 := Lib.hid (keep hb (old1D R4.out)))); (first | (with_reducible have Rg1 := Lib.hid (keep hb Rg1.out)) | (with_reducible have Rg1 := Lib.hid (keep hb (old1 Rg1.out))) | (with_reducible have Rg1 := Lib.hid (keep hb (oldD Rg1.out))) | (with_reducible have Rg1 := Lib.hid (keep hb (old1D Rg1.out)))); (first | (have RNw := Lib.hid (keep hb RNw.out)) | (with_reducible have RNw := Lib.hid (keep hb (heap_alloc_new _ _))) | (with_reducible have RNw := Lib.hid (keep hb (newD _ _))) | skip); obtain ⟨R2c0, R2c1, R2c2⟩ := rowc3 R2.out; obtain ⟨R3c0, R3c1, R3c2⟩ := rowc3 R3.out; have lw2 := lt_of_row Rg1.out; (first | (have RNx := row2 RNw.out; obtain ⟨RNf0, RNf1, RNf2, RNf3⟩ := RNx) | skip); (first | (with_reducible have HKg1 := Lib.hid (HKg1.out.below hb)) | (with_reducible have HKg1 := Lib.hid (HKg1.out.drewR.below hb)) | (with_reducible have HKg1 := Lib.hid ((HKg1.out.below (A1 rfl).1).below hb)) | (with_reducible have HKg1 := Lib.hid ((HKg1.out.below (A1 rfl).1).drewR.below hb))); (first | (with_reducible have HK := Lib.hid (HR.out.below hb)) | (have HK := Lib.hid ((HR.out.below (A1 rfl).1).below hb))); clear hb))
      all_goals
        go_wp2_with fail
        go_meet
        first
        | exact ⟨_, _, rfl, Lib.hid (heap_alloc_new _ _), Lib.hid (HK.out.below (A1 rfl).1), Lib.hid (HKg1.out.below (A1 rfl).1), Lib.hid (old1 R2.out), Lib.hid (old1 R3.out), Lib.hid (old1 R4.out), Lib.hid (old1 Rg1.out), bstep hB2 (A1 rfl).1, by omega⟩
        | exact ⟨_, _, rfl, Lib.hid (store2 RNw.out _ _), Lib.hid (HK.out.store2 RNw.out), Lib.hid (HKg1.out.store2 RNw.out), Lib.hid (store2_other (by omega) R2.out _ _), Lib.hid (store2_other (by omega) R3.out _ _), Lib.hid (store2_other (by omega) R4.out _ _), Lib.hid (store2_other (by omega) Rg1.out _ _), store2_below hB2 (by omega) _ _, by omega⟩
    case rest =>
      obtain ⟨g2, rg2, rfl, Rg2, HKg2, HKg1, R2, R3, R4, Rg1, hB, hpg2⟩ := hcut
      go_wp2_with fail
      have n1 : g1 ≠ w.heap.size + 2 := by omega
      have n2 : g2 ≠ w.heap.size + 2 := by omega
      obtain ⟨Rg1c0, Rg1c1⟩ := rowc2 Rg1.out
      obtain ⟨Rg2c0, Rg2c1⟩ := rowc2 Rg2.out
      obtain ⟨R2c0, R2c1, R2c2⟩ := rowc3 R2.out
      obtain ⟨R3c0, R3c1, R3c2⟩ := rowc3 R3.out
      have hB0 := hB.drew
      go_region_held3 (fun w' => w'.cell? ⟨g1, 0, none⟩ = some (.bool bx) ∧ w'.cell? ⟨g1, 1, none⟩ = some (.slice rg1.A rg1.n rg1.c) ∧ w'.cell? ⟨g2, 0, none⟩ = some (.bool by_) ∧ w'.cell? ⟨g2, 1, none⟩ = some (.slice rg2.A rg2.n rg2.c) ∧ w'.cell? ⟨w.heap.size, 2, none⟩ = some (.slice d.A d.n d.c) ∧ w'.cell? ⟨w.heap.size + 1, 2, none⟩ = some (.slice t.A t.n t.c)) (first | exact ⟨Rg1c0, Rg1c1, Rg2c0, Rg2c1, R2c2, R3c2⟩ | exact ⟨by with_reducible assumption, by with_reducible assumption, by with_reducible assumption, by with_reducible assumption, by with_reducible assumption, by with_reducible assumption⟩ | exact ⟨cS3 (by omega) (by with_reducible assumption), cS3 (by omega) (by with_reducible assumption), cS3 (by omega) (by with_reducible assumption), cS3 (by omega) (by with_reducible assumption), cS3 (by omega) (by with_reducible assumption), cS3 (by omega) (by with_reducible assumption)⟩ | go_keep)
          (first
            | (go_at_call 66; (with_reducible refine (HP.out _ rg1 rg2 HKg1.out.drewR HKg2.out.drewR).mono ?_); rintro e wq0 ⟨r, rfl, hr, hb⟩; have hB1 := bstep hB0 hb; have Rg1 := Lib.hid (keep hb Rg1.out); have Rg2 := Lib.hid (keep hb Rg2.out); have R2 := Lib.hid (keep hb R2.out); have R3 := Lib.hid (keep hb R3.out); have R4 := Lib.hid (keep hb R4.out); obtain ⟨Rg1c0, Rg1c1⟩ := rowc2 Rg1.out; obtain ⟨Rg2c0, Rg2c1⟩ := rowc2 Rg2.out; obtain ⟨R2c0, R2c1, R2c2⟩ := rowc3 R2.out; obtain ⟨R3c0, R3c1, R3c2⟩ := rowc3 R3.out; have HR := Lib.hid hr; clear hb)
            | (go_at_call 68; (with_reducible refine (HN.out _ hB1).mono ?_); rintro e wq1 ⟨u, rfl, hu, hb⟩; have hB2 := bstep hB1 hb; have Rg1 := Lib.hid (keep hb Rg1.out); have Rg2 := Lib.hid (keep hb Rg2.out); have R2 := Lib.hid (keep hb R2.out); have R3 := Lib.hid (keep hb R3.out); have R4 := Lib.hid (keep hb R4.out); obtain ⟨Rg1c0, Rg1c1⟩ := rowc2 Rg1.out; obtain ⟨Rg2c0, Rg2c1⟩ := rowc2 Rg2.out; obtain ⟨R2c0, R2c1, R2c2⟩ := rowc3 R2.out; obtain ⟨R3c0, R3c1, R3c2⟩ := rowc3 R3.out; have HU := Lib.hid hu; have HR := Lib.hid (HR.out.below hb); clear hb)
            | (go_at_call 65; (with_reducible refine (HL.out _ r u HR.out HU.out).mono ?_); rintro e wq2 ⟨f, g, rfl, hf, hb⟩; have hB3 := bstep hB2 hb; have Rg1 := Lib.hid (keep hb Rg1.out); have Rg2 := Lib.hid (keep hb Rg2.out); have R2 := Lib.hid (keep hb R2.out); have R3 := Lib.hid (keep hb R3.out); have R4 := Lib.hid (keep hb R4.out); obtain ⟨Rg1c0, Rg1c1⟩ := rowc2 Rg1.out; obtain ⟨Rg2c0, Rg2c1⟩ := rowc2 Rg2.out; obtain ⟨R2c0, R2c1, R2c2⟩ := rowc3 R2.out; obtain ⟨R3c0, R3c1, R3c2⟩ := rowc3 R3.out; obtain ⟨R4f0, R4f1, R4f2, R4f3, R4f4, R4f5⟩ := row3 R4.out; have HK := Lib.hid hf; clear hb))
      all_goals
        go_wp2_with fail
        exact bodyPost_ret (res_c rfl q_row rfl (store3 R4.out _ _ _) rfl) rfl ⟨_, _, rfl, HK.out.store3 R4.out, store3_below hB3 (by omega) _ _ _⟩

end Go.Proofs.YthkkdepppjiaeaaGreatDoor
