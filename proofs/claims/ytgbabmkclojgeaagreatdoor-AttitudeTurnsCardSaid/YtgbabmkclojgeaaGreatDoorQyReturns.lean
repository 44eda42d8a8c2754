/- A PART OF THE PROOF, JOINED OUT OF 3 TEXTS. -/
import Derived.Test.YtgbabmkclojgeaaGreatDoorQxMirrors
/- Walks of the program's package attitude: Back. -/
namespace Go.Proofs.YtgbabmkclojgeaaGreatDoor
open Go.RowKit Go.Shelf Go.Sort

attribute [local go_sem] Oper.semAt_some

theorem end3 {V Y : World} {r : Nat} {x0 x1 x2 : Value} {t : TypeId} (hv : Below V.heap.size V Y) (hr : Y.heap[r]? = some (.cells #[x0, x1, x2] t (0, 0))) (hle : V.heap.size ≤ r) (a b c : Value) :
    (((Y.setCell ⟨r, 0, none⟩ a).setCell ⟨r, 1, none⟩ b).setCell ⟨r, 2, none⟩ c).heap[r]? = some (.cells #[a, b, c] t (0, 0)) ∧ Below V.heap.size V (((Y.setCell ⟨r, 0, none⟩ a).setCell ⟨r, 1, none⟩ b).setCell ⟨r, 2, none⟩ c) :=
  ⟨store3 hr _ _ _, store3_below hv hle _ _ _⟩
theorem endN3 {V Y : World} (hv : Below V.heap.size V Y) (o : Obj) : (Y.alloc o).heap[Y.heap.size]? = some o ∧ Below V.heap.size V (Y.alloc o) := ⟨heap_alloc_new _ _, bstep hv (A1 rfl).1⟩


set_option maxRecDepth 100000 in
set_option maxHeartbeats 4000000 in
theorem at_Back_err (h t r0 r1 r2 : ByteArray) (cc : Int) (w : World) (hE : Env w) (hc1 : (cc != 0) = true)
    (h1 : ∀ w, Env w → Calls Tryz.prog 98 #[.agg #[.string h, .string t], .agg #[.string r0, .string r1, .string r2]] w fun e w' => e = .returned (.int .i64 cc) ∧ Below w.heap.size w w') :
    Calls Tryz.prog 58 #[.agg #[.string h, .string t], .agg #[.string r0, .string r1, .string r2]] w fun e w' => e = .returned (.tuple #[.agg #[.string ⟨#[]⟩, .string ⟨#[]⟩, .string ⟨#[]⟩], .int .i64 cc]) ∧ Below w.heap.size w w' := by
  have H1 := Lib.hid h1
  have HE := Lib.hid hE
  clear hE h1
  go_enter Tryz.func58, Tryz.ntmps58
  go_wp2_with fail
  generalize hW : ((World.alloc w _).alloc _).alloc _ = W
  obtain ⟨hB, hsz, R1, R2, R3⟩ := A3 hW
  have R1 := Lib.hid R1
  have R2 := Lib.hid R2
  have R3 := Lib.hid R3
  clear hW hsz
  obtain ⟨c0, c1, f0, f1⟩ := row2 R1.out
  obtain ⟨R2c0, R2c1, R2c2, R2f0, R2f1, R2f2⟩ := row3 R2.out
  go_wp2_with fail
  clear c0 c1 f0 f1
  clear R2c0 R2c1 R2c2 R2f0 R2f1 R2f2
  refine (H1.out _ (HE.out.below hB)).mono ?_
  rintro e w1 ⟨rfl, hb⟩
  replace hB := bstep hB hb
  have R3 := Lib.hid (keep hb R3.out)
  clear hb
  obtain ⟨R3c0, R3c1, R3c2, R3f0, R3f1, R3f2⟩ := row3 R3.out
  go_wp2_with fail
  exact bodyPost_ret (res_ct rfl vec_row rfl (store3 R3.out _ _ _) rfl) rfl ⟨rfl, store3_below hB (by omega) _ _ _⟩


set_option maxRecDepth 100000 in
set_option maxHeartbeats 4000000 in
theorem at_Back_ok (h t r0 r1 r2 z0 z1 z2 z3 z4 z5 z6 z7 z8 p0_0 p0_1 p0_2 p1_0 p1_1 p1_2 p2_0 p2_1 p2_2 u0_0 u0_1 u0_2 u1_0 u1_1 u1_2 u2_0 u2_1 u2_2 : ByteArray) (w : World) (hE : Env w)
    (h1 : ∀ w, Env w → Calls Tryz.prog 98 #[.agg #[.string h, .string t], .agg #[.string r0, .string r1, .string r2]] w fun e w' => e = .returned (.int .i64 0) ∧ Below w.heap.size w w')
    (h2 : ∀ w, Env w → Calls Tryz.prog 65 #[.agg #[.string h, .string t]] w fun e w' => e = .returned (.agg #[.string z0, .string z1, .string z2, .string z3, .string z4, .string z5, .string z6, .string z7, .string z8]) ∧ Below w.heap.size w w')
    (s0 : ∀ w, Env w → Calls Tryz.prog 24 #[.agg #[.string z0, .string z1, .string z2], .string r0] w fun e w' => e = .returned (.tuple #[.agg #[.string p0_0, .string p0_1, .string p0_2], .int .i64 0]) ∧ Below w.heap.size w w')
    (a0 : ∀ w, Env w → Calls Tryz.prog 20 #[.agg #[.string ⟨#[48]⟩, .string ⟨#[48]⟩, .string ⟨#[48]⟩], .agg #[.string p0_0, .string p0_1, .string p0_2]] w fun e w' => e = .returned (.tuple #[.agg #[.string u0_0, .string u0_1, .string u0_2], .int .i64 0]) ∧ Below w.heap.size w w')
    (s1 : ∀ w, Env w → Calls Tryz.prog 24 #[.agg #[.string z3, .string z4, .string z5], .string r1] w fun e w' => e = .returned (.tuple #[.agg #[.string p1_0, .string p1_1, .string p1_2], .int .i64 0]) ∧ Below w.heap.size w w')
    (a1 : ∀ w, Env w → Calls Tryz.prog 20 #[.agg #[.string u0_0, .string u0_1, .string u0_2], .agg #[.string p1_0, .string p1_1, .string p1_2]] w fun e w' => e = .returned (.tuple #[.agg #[.string u1_0, .string u1_1, .string u1_2], .int .i64 0]) ∧ Below w.heap.size w w')
    (s2 : ∀ w, Env w → Calls Tryz.prog 24 #[.agg #[.string z6, .string z7, .string z8], .string r2] w fun e w' => e = .returned (.tuple #[.agg #[.string p2_0, .string p2_1, .string p2_2], .int .i64 0]) ∧ Below w.heap.size w w')
    (a2 : ∀ w, Env w → Calls Tryz.prog 20 #[.agg #[.string u1_0, .string u1_1, .string u1_2], .agg #[.string p2_0, .string p2_1, .string p2_2]] w fun e w' => e = .returned (.tuple #[.agg #[.string u2_0, .string u2_1, .string u2_2], .int .i64 0]) ∧ Below w.heap.size w w') :
    Calls Tryz.prog 58 #[.agg #[.string h, .string t], .agg #[.string r0, .string r1, .string r2]] w fun e w' => e = .returned (.tuple #[.agg #[.string u2_0, .string u2_1, .string u2_2], .int .i64 0]) ∧ Below w.heap.size w w' := by
  have H1 := Lib.hid h1
  have H2 := Lib.hid h2
  have S0_ := Lib.hid s0
  have A0_ := Lib.hid a0
  have S1_ := Lib.hid s1
  have A1_ := Lib.hid a1
  have S2_ := Lib.hid s2
  have A2_ := Lib.hid a2
  have HE := Lib.hid hE
  clear hE h1 h2 s0 a0 s1 a1 s2 a2
  have i0 : ∀ w, (Instr.index 90 (.agg #[.string z0, .string z1, .string z2, .string z3, .string z4, .string z5, .string z6, .string z7, .string z8]) (.int .i64 0)).run Tryz.prog w = .ok (.agg #[.string z0, .string z1, .string z2]) w := fun _ => by kernel_rfl
  have i1 : ∀ w, (Instr.index 90 (.agg #[.string z0, .string z1, .string z2, .string z3, .string z4, .string z5, .string z6, .string z7, .string z8]) (.int .i64 1)).run Tryz.prog w = .ok (.agg #[.string z3, .string z4, .string z5]) w := fun _ => by kernel_rfl
  have i2 : ∀ w, (Instr.index 90 (.agg #[.string z0, .string z1, .string z2, .string z3, .string z4, .string z5, .string z6, .string z7, .string z8]) (.int .i64 2)).run Tryz.prog w = .ok (.agg #[.string z6, .string z7, .string z8]) w := fun _ => by kernel_rfl
  go_enter Tryz.func58, Tryz.ntmps58
  go_wp2_with fail
  generalize hW : ((World.alloc w _).alloc _).alloc _ = W
  obtain ⟨hB, hsz, R1, R2, R3⟩ := A3 hW
  have R1 := Lib.hid R1
  have R2 := Lib.hid R2
  have R3 := Lib.hid R3
  clear hW hsz
  obtain ⟨c0, c1, f0, f1⟩ := row2 R1.out
  obtain ⟨R2c0, R2c1, R2c2, R2f0, R2f1, R2f2⟩ := row3 R2.out
  go_wp2_with fail
  clear c0 c1 f0 f1
  clear R2c0 R2c1 R2c2 R2f0 R2f1 R2f2
  refine (H1.out _ (HE.out.below hB)).mono ?_
  rintro e w2 ⟨rfl, hb⟩
  replace hB := bstep hB hb
  have R1 := Lib.hid (keep hb R1.out)
  have R2 := Lib.hid (keep hb R2.out)
  have R3 := Lib.hid (keep hb R3.out)
  clear hb
  have n3 := Lib.hid (show w.heap.size + 2 < w2.heap.size from lt_of_row R3.out)
  obtain ⟨R2c0, R2c1, R2c2, R2f0, R2f1, R2f2⟩ := row3 R2.out
  have l1 := lp2 R2.out
  have l2 := lp2 R1.out
  obtain ⟨c0, c1, f0, f1⟩ := row2 R1.out
  go_upto_region 6 with fail
  clear c0 c1 f0 f1 l1 l2
  clear R2c0 R2c1 R2c2 R2f0 R2f1 R2f2
  generalize hW : (World.alloc _ _).alloc _ = V
  obtain ⟨hb, hsz, R7, R8⟩ := A2 hW
  replace hB := bstep hB hb
  have R1 := Lib.hid (keep hb R1.out)
  have R2 := Lib.hid (keep hb R2.out)
  have R3 := Lib.hid (keep hb R3.out)
  clear hb
  have R7 := Lib.hid R7
  have R8 := Lib.hid R8
  clear hW hsz
  obtain ⟨c0, c1, f0, f1⟩ := row2 R1.out
  go_wp2_with fail
  clear c0 c1 f0 f1
  refine (H2.out _ (HE.out.below hB)).mono ?_
  rintro e w3 ⟨rfl, hb⟩
  replace hB := bstep hB hb
  have R3 := Lib.hid (keep hb R3.out)
  have R7 := Lib.hid (keep hb R7.out)
  have R8 := Lib.hid (keep hb R8.out)
  clear hb
  have N3 := Lib.hid (show w2.heap.size + 1 < w3.heap.size from lt_of_row R8.out)
  go_wp2_with fail
  go_loopw [30] (fun x wr => ∃ k : Int, x = .int .i64 k ∧ Below w.heap.size w wr ∧ Hid (wr.heap[w.heap.size + 2]? = some (.cells #[.string ⟨#[]⟩, .string ⟨#[]⟩, .string ⟨#[]⟩] 28 (0, 0))) ∧ Hid (wr.heap[w2.heap.size + 1]? = some (.cells #[.string r0, .string r1, .string r2] 116 (0, 0))) ∧ ((k = 0 ∧ Hid (wr.heap[w2.heap.size]? = some (.cells #[.string ⟨#[48]⟩, .string ⟨#[48]⟩, .string ⟨#[48]⟩] 28 (0, 0)))) ∨ (k = 1 ∧ Hid (wr.heap[w2.heap.size]? = some (.cells #[.string u0_0, .string u0_1, .string u0_2] 28 (0, 0)))) ∨ (k = 2 ∧ Hid (wr.heap[w2.heap.size]? = some (.cells #[.string u1_0, .string u1_1, .string u1_2] 28 (0, 0)))) ∨ (k = 3 ∧ Hid (wr.heap[w2.heap.size]? = some (.cells #[.string u2_0, .string u2_1, .string u2_2] 28 (0, 0)))))) (fun x _ => (3 - intOf x).toNat)
  case atStart => exact ⟨0, rfl, hB, R3, R8, Or.inl ⟨rfl, R7⟩⟩
  case round =>
    clear R3 R7 R8 hB
    obtain ⟨k, rfl, hB, R3, R8, hk⟩ := hrel
    rcases hk with ⟨rfl, R7⟩ | ⟨rfl, R7⟩ | ⟨rfl, R7⟩ | ⟨rfl, R7⟩
    · have nX := lp2 R8.out
      go_upto_region 9 with fail
      clear nX
      generalize hW : World.alloc _ _ = Y
      obtain ⟨hb, hsz, RX⟩ := A1 hW
      replace hB := bstep hB hb
      have R3 := Lib.hid (keep hb R3.out)
      have R7 := Lib.hid (keep hb R7.out)
      have R8 := Lib.hid (keep hb R8.out)
      clear hb
      have RX := Lib.hid RX
      clear hW hsz
      have T0 := Lib.hid (fun W (hb : Below Y.heap.size Y W) => S0_.out W (HE.out.below (bstep hB hb)))
      go_cut [11] (fun x wc => ∃ (i : Nat), x = .pointer (some ⟨i, 0, none⟩) ∧ Hid (wc.heap[i]? = some (.cells #[.string p0_0, .string p0_1, .string p0_2] 28 (0, 0))) ∧ Hid (Below Y.heap.size Y wc))
      case first =>
        have LRX := fun (w' : World) (h : Ap Y.heap.size Y.heap.size Y w') => rowc3 (h.rowV RX.out)
        have LR8 := fun (w' : World) (h : Ap Y.heap.size Y.heap.size Y w') => rowc3 (h.rowV R8.out)
        have hvr := Below.refl Y.heap.size Y
        have hv0 := hvr.drew
        first
        | go_region_held3 (fun w' => Ap Y.heap.size Y.heap.size Y w') (first | (with_reducible assumption) | (with_reducible exact Ap.refl _ _ _) | ((repeat (first | with_reducible assumption | with_reducible exact Ap.refl _ _ _ | with_reducible refine Ap.drew ?_ | with_reducible refine Ap.alloc ?_ | with_reducible refine Ap.set1 ?_ | with_reducible refine Ap.set2 ?_ | with_reducible refine Ap.setN (by first | with_reducible assumption | with_reducible exact Nat.le_refl _ | with_reducible exact Nat.le_add_right _ _ | with_reducible exact Nat.le_trans (by assumption) (Nat.le_add_right _ _)) ?_)); done))
            (first
              | (go_at_call 24; (with_reducible refine (T0.out _ (by first | with_reducible exact hv0 | with_reducible exact bstep hv0 (A1 rfl).1 | with_reducible exact (bstep hv0 (A1 rfl).1).drew | with_reducible exact (bstep hvr (A1 rfl).1).drew)).mono ?_); rintro e wq0 ⟨rfl, hb⟩; have hv1 : Below Y.heap.size Y wq0 := (by first | with_reducible exact bstep (hv0) hb | with_reducible exact bstep (bstep hv0 (A1 rfl).1) hb | with_reducible exact bstep ((bstep hv0 (A1 rfl).1).drew) hb | with_reducible exact bstep ((bstep hvr (A1 rfl).1).drew) hb); have hs1 := Ap.of_below (g := Y.heap.size) (h := Y.heap.size) hv1; have sz1 := hv1.size; (first | (have RN0 : RowKit.Hid (wq0.heap[Y.heap.size]? = some (.cells #[.string ⟨#[]⟩, .string ⟨#[]⟩, .string ⟨#[]⟩] 28 (0, 0))) := Lib.hid (by first | exact one_new hb | exact one_newD hb)) | skip); (first | (have RNg := lt_of_row RN0.out; have RNh := Nat.ne_of_lt RNg; have RNi := Nat.ne_of_gt RNg) | skip); (first | (have RNx := row3 RN0.out; obtain ⟨RNf00, RNf01, RNf02, RNf03, RNf04, RNf05⟩ := RNx) | skip); clear hb))
        | fail
        all_goals
          go_wp2_with fail
          go_meet
          first
          | (have E := endN3 hv1 (.cells #[.string p0_0, .string p0_1, .string p0_2] 28 (0, 0)); with_reducible exact ⟨_, rfl, Lib.hid E.1, Lib.hid E.2⟩)
          | (have E := end3 hv1 RN0.out (by first | exact Nat.le_refl _ | assumption) (.string p0_0) (.string p0_1) (.string p0_2); with_reducible exact ⟨_, rfl, Lib.hid E.1, Lib.hid E.2⟩)
      case rest =>
        obtain ⟨i, rfl, RP, hbw⟩ := hcut
        have hb := hbw.out
        have R3 := Lib.hid (keep hb R3.out)
        have R7 := Lib.hid (keep hb R7.out)
        have R8 := Lib.hid (keep hb R8.out)
        replace hB := bstep hB hb
        clear hb hbw RX
        obtain ⟨q0, q1, q2, q3, q4, q5⟩ := row3 R7.out
        obtain ⟨e0, e1, e2, e3, e4, e5⟩ := row3 RP.out
        go_wp2_with fail
        clear q0 q1 q2 q3 q4 q5 e0 e1 e2 e3 e4 e5
        refine (A0_.out _ (HE.out.below hB)).mono ?_
        rintro e w5 ⟨rfl, hb⟩
        replace hB := bstep hB hb
        have R3 := Lib.hid (keep hb R3.out)
        have R7 := Lib.hid (keep hb R7.out)
        have R8 := Lib.hid (keep hb R8.out)
        clear hb
        obtain ⟨q0, q1, q2, q3, q4, q5⟩ := row3 R7.out
        go_wp2_with fail
        go_roundw
        case rel => exact ⟨1, by go_num, store3_below hB (by have := n3.out; omega) _ _ _, Lib.hid (store3_other (by have := n3.out; omega) R3.out _ _ _), Lib.hid (store3_other (by omega) R8.out _ _ _), Or.inr (Or.inl ⟨rfl, Lib.hid (store3 R7.out _ _ _)⟩)⟩
        case measure => decide
    · have nX := lp2 R8.out
      go_upto_region 9 with fail
      clear nX
      generalize hW : World.alloc _ _ = Y
      obtain ⟨hb, hsz, RX⟩ := A1 hW
      replace hB := bstep hB hb
      have R3 := Lib.hid (keep hb R3.out)
      have R7 := Lib.hid (keep hb R7.out)
      have R8 := Lib.hid (keep hb R8.out)
      clear hb
      have RX := Lib.hid RX
      clear hW hsz
      have T1 := Lib.hid (fun W (hb : Below Y.heap.size Y W) => S1_.out W (HE.out.below (bstep hB hb)))
      go_cut [11] (fun x wc => ∃ (i : Nat), x = .pointer (some ⟨i, 0, none⟩) ∧ Hid (wc.heap[i]? = some (.cells #[.string p1_0, .string p1_1, .string p1_2] 28 (0, 0))) ∧ Hid (Below Y.heap.size Y wc))
      case first =>
        have LRX := fun (w' : World) (h : Ap Y.heap.size Y.heap.size Y w') => rowc3 (h.rowV RX.out)
        have LR8 := fun (w' : World) (h : Ap Y.heap.size Y.heap.size Y w') => rowc3 (h.rowV R8.out)
        have hvr := Below.refl Y.heap.size Y
        have hv0 := hvr.drew
        first
        | go_region_held3 (fun w' => Ap Y.heap.size Y.heap.size Y w') (first | (with_reducible assumption) | (with_reducible exact Ap.refl _ _ _) | ((repeat (first | with_reducible assumption | with_reducible exact Ap.refl _ _ _ | with_reducible refine Ap.drew ?_ | with_reducible refine Ap.alloc ?_ | with_reducible refine Ap.set1 ?_ | with_reducible refine Ap.set2 ?_ | with_reducible refine Ap.setN (by first | with_reducible assumption | with_reducible exact Nat.le_refl _ | with_reducible exact Nat.le_add_right _ _ | with_reducible exact Nat.le_trans (by assumption) (Nat.le_add_right _ _)) ?_)); done))
            (first
              | (go_at_call 24; (with_reducible refine (T1.out _ (by first | with_reducible exact hv0 | with_reducible exact bstep hv0 (A1 rfl).1 | with_reducible exact (bstep hv0 (A1 rfl).1).drew | with_reducible exact (bstep hvr (A1 rfl).1).drew)).mono ?_); rintro e wq0 ⟨rfl, hb⟩; have hv1 : Below Y.heap.size Y wq0 := (by first | with_reducible exact bstep (hv0) hb | with_reducible exact bstep (bstep hv0 (A1 rfl).1) hb | with_reducible exact bstep ((bstep hv0 (A1 rfl).1).drew) hb | with_reducible exact bstep ((bstep hvr (A1 rfl).1).drew) hb); have hs1 := Ap.of_below (g := Y.heap.size) (h := Y.heap.size) hv1; have sz1 := hv1.size; (first | (have RN0 : RowKit.Hid (wq0.heap[Y.heap.size]? = some (.cells #[.string ⟨#[]⟩, .string ⟨#[]⟩, .string ⟨#[]⟩] 28 (0, 0))) := Lib.hid (by first | exact one_new hb | exact one_newD hb)) | skip); (first | (have RNg := lt_of_row RN0.out; have RNh := Nat.ne_of_lt RNg; have RNi := Nat.ne_of_gt RNg) | skip); (first | (have RNx := row3 RN0.out; obtain ⟨RNf00, RNf01, RNf02, RNf03, RNf04, RNf05⟩ := RNx) | skip); clear hb))
        | fail
        all_goals
          go_wp2_with fail
          go_meet
          first
          | (have E := endN3 hv1 (.cells #[.string p1_0, .string p1_1, .string p1_2] 28 (0, 0)); with_reducible exact ⟨_, rfl, Lib.hid E.1, Lib.hid E.2⟩)
          | (have E := end3 hv1 RN0.out (by first | exact Nat.le_refl _ | assumption) (.string p1_0) (.string p1_1) (.string p1_2); with_reducible exact ⟨_, rfl, Lib.hid E.1, Lib.hid E.2⟩)
      case rest =>
        obtain ⟨i, rfl, RP, hbw⟩ := hcut
        have hb := hbw.out
        have R3 := Lib.hid (keep hb R3.out)
        have R7 := Lib.hid (keep hb R7.out)
        have R8 := Lib.hid (keep hb R8.out)
        replace hB := bstep hB hb
        clear hb hbw RX
        obtain ⟨q0, q1, q2, q3, q4, q5⟩ := row3 R7.out
        obtain ⟨e0, e1, e2, e3, e4, e5⟩ := row3 RP.out
        go_wp2_with fail
        clear q0 q1 q2 q3 q4 q5 e0 e1 e2 e3 e4 e5
        refine (A1_.out _ (HE.out.below hB)).mono ?_
        rintro e w5 ⟨rfl, hb⟩
        replace hB := bstep hB hb
        have R3 := Lib.hid (keep hb R3.out)
        have R7 := Lib.hid (keep hb R7.out)
        have R8 := Lib.hid (keep hb R8.out)
        clear hb
        obtain ⟨q0, q1, q2, q3, q4, q5⟩ := row3 R7.out
        go_wp2_with fail
        go_roundw
        case rel => exact ⟨2, by go_num, store3_below hB (by have := n3.out; omega) _ _ _, Lib.hid (store3_other (by have := n3.out; omega) R3.out _ _ _), Lib.hid (store3_other (by omega) R8.out _ _ _), Or.inr (Or.inr (Or.inl ⟨rfl, Lib.hid (store3 R7.out _ _ _)⟩))⟩
        case measure => decide
    · have nX := lp2 R8.out
      go_upto_region 9 with fail
      clear nX
      generalize hW : World.alloc _ _ = Y
      obtain ⟨hb, hsz, RX⟩ := A1 hW
      replace hB := bstep hB hb
      have R3 := Lib.hid (keep hb R3.out)
      have R7 := Lib.hid (keep hb R7.out)
      have R8 := Lib.hid (keep hb R8.out)
      clear hb
      have RX := Lib.hid RX
      clear hW hsz
      have T2 := Lib.hid (fun W (hb : Below Y.heap.size Y W) => S2_.out W (HE.out.below (bstep hB hb)))
      go_cut [11] (fun x wc => ∃ (i : Nat), x = .pointer (some ⟨i, 0, none⟩) ∧ Hid (wc.heap[i]? = some (.cells #[.string p2_0, .string p2_1, .string p2_2] 28 (0, 0))) ∧ Hid (Below Y.heap.size Y wc))
      case first =>
        have LRX := fun (w' : World) (h : Ap Y.heap.size Y.heap.size Y w') => rowc3 (h.rowV RX.out)
        have LR8 := fun (w' : World) (h : Ap Y.heap.size Y.heap.size Y w') => rowc3 (h.rowV R8.out)
        have hvr := Below.refl Y.heap.size Y
        have hv0 := hvr.drew
        first
        | go_region_held3 (fun w' => Ap Y.heap.size Y.heap.size Y w') (first | (with_reducible assumption) | (with_reducible exact Ap.refl _ _ _) | ((repeat (first | with_reducible assumption | with_reducible exact Ap.refl _ _ _ | with_reducible refine Ap.drew ?_ | with_reducible refine Ap.alloc ?_ | with_reducible refine Ap.set1 ?_ | with_reducible refine Ap.set2 ?_ | with_reducible refine Ap.setN (by first | with_reducible assumption | with_reducible exact Nat.le_refl _ | with_reducible exact Nat.le_add_right _ _ | with_reducible exact Nat.le_trans (by assumption) (Nat.le_add_right _ _)) ?_)); done))
            (first
              | (go_at_call 24; (with_reducible refine (T2.out _ (by first | with_reducible exact hv0 | with_reducible exact bstep hv0 (A1 rfl).1 | with_reducible exact (bstep hv0 (A1 rfl).1).drew | with_reducible exact (bstep hvr (A1 rfl).1).drew)).mono ?_); rintro e wq0 ⟨rfl, hb⟩; have hv1 : Below Y.heap.size Y wq0 := (by first | with_reducible exact bstep (hv0) hb | with_reducible exact bstep (bstep hv0 (A1 rfl).1) hb | with_reducible exact bstep ((bstep hv0 (A1 rfl).1).drew) hb | with_reducible exact bstep ((bstep hvr (A1 rfl).1).drew) hb); have hs1 := Ap.of_below (g := Y.heap.size) (h := Y.heap.size) hv1; have sz1 := hv1.size; (first | (have RN0 : RowKit.Hid (wq0.heap[Y.heap.size]? = some (.cells #[.string ⟨#[]⟩, .string ⟨#[]⟩, .string ⟨#[]⟩] 28 (0, 0))) := Lib.hid (by first | exact one_new hb | exact one_newD hb)) | skip); (first | (have RNg := lt_of_row RN0.out; have RNh := Nat.ne_of_lt RNg; have RNi := Nat.ne_of_gt RNg) | skip); (first | (have RNx := row3 RN0.out; obtain ⟨RNf00, RNf01, RNf02, RNf03, RNf04, RNf05⟩ := RNx) | skip); clear hb))
        | fail
        all_goals
          go_wp2_with fail
          go_meet
          first
          | (have E := endN3 hv1 (.cells #[.string p2_0, .string p2_1, .string p2_2] 28 (0, 0)); with_reducible exact ⟨_, rfl, Lib.hid E.1, Lib.hid E.2⟩)
          | (have E := end3 hv1 RN0.out (by first | exact Nat.le_refl _ | assumption) (.string p2_0) (.string p2_1) (.string p2_2); with_reducible exact ⟨_, rfl, Lib.hid E.1, Lib.hid E.2⟩)
      case rest =>
        obtain ⟨i, rfl, RP, hbw⟩ := hcut
        have hb := hbw.out
        have R3 := Lib.hid (keep hb R3.out)
        have R7 := Lib.hid (keep hb R7.out)
        have R8 := Lib.hid (keep hb R8.out)
        replace hB := bstep hB hb
        clear hb hbw RX
        obtain ⟨q0, q1, q2, q3, q4, q5⟩ := row3 R7.out
        obtain ⟨e0, e1, e2, e3, e4, e5⟩ := row3 RP.out
        go_wp2_with fail
        clear q0 q1 q2 q3 q4 q5 e0 e1 e2 e3 e4 e5
        refine (A2_.out _ (HE.out.below hB)).mono ?_
        rintro e w5 ⟨rfl, hb⟩
        replace hB := bstep hB hb
        have R3 := Lib.hid (keep hb R3.out)
        have R7 := Lib.hid (keep hb R7.out)
        have R8 := Lib.hid (keep hb R8.out)
        clear hb
        obtain ⟨q0, q1, q2, q3, q4, q5⟩ := row3 R7.out
        go_wp2_with fail
        go_roundw
        case rel => exact ⟨3, by go_num, store3_below hB (by have := n3.out; omega) _ _ _, Lib.hid (store3_other (by have := n3.out; omega) R3.out _ _ _), Lib.hid (store3_other (by omega) R8.out _ _ _), Or.inr (Or.inr (Or.inr ⟨rfl, Lib.hid (store3 R7.out _ _ _)⟩))⟩
        case measure => decide
    · obtain ⟨q0, q1, q2, q3, q4, q5⟩ := row3 R7.out
      obtain ⟨e0, e1, e2, e3, e4, e5⟩ := row3 R3.out
      go_wp2_with fail
      exact bodyPost_ret (res_ct rfl vec_row rfl (store3 R3.out _ _ _) rfl) rfl ⟨rfl, store3_below hB (by omega) _ _ _⟩
end Go.Proofs.YtgbabmkclojgeaaGreatDoor

/- The law AttitudeReturns. -/
namespace Go.Proofs.YtgbabmkclojgeaaGreatDoor
open Go.RowKit Go.Shelf Go.Sort

attribute [local go_sem] Oper.semAt_some vec_guard vec_eq

theorem shV_of {k : Nat} {a : V3} (h : SzV k a) (hk : k ≤ 4000000) : ShV (rs a.x, rs a.y, rs a.z) := sh_of h hk
theorem at_pointV (p q : Rat) (r : V3) (w : World) (hE : Env w) (hp : Sz 41 p) (hq : Sz 41 q) (hr : SzV 100000 r) (hi : inR p q = true) :
    Calls Tryz.prog 98 #[.agg #[.string (rs p), .string (rs q)], vV r] w fun e w' => e = .returned (.int .i64 0) ∧ Below w.heap.size w w' := by
  have u : ∀ {x : Rat}, Sz 41 x → (rs x).size ≤ 100000 := fun {x} h => by have := rs_size x; have := h.1; have := h.2; omega
  have sh := sh_of hr (by decide)
  have h := at_point_aux (rs p) (rs q) (rs r.x) (rs r.y) (rs r.z) true true 0 w hE
    (fun w hE => by have k := at_numbers (rs p, rs q) w hE (u hp) (u hq); simp only [rvB_rs, Bool.and_self] at k; exact k)
    (fun w hE => by have k := ve_Valid (rs r.x) (rs r.y) (rs r.z) w hE sh.1 sh.2.1 sh.2.2; simp only [rvB_rs, Bool.and_self] at k; exact k)
    (fun w hE => by have k := at_Check (rs p, rs q) w hE (u hp) (u hq); simp only [rvB_rs, rvX_rs, Bool.and_self, hi] at k; exact k)
  exact h
theorem at_TurnV (p q : Rat) (r : V3) (w : World) (hE : Env w) (hp : Sz 41 p) (hq : Sz 41 q) (hr : SzV 100000 r) (hi : inR p q = true) :
    Calls Tryz.prog 41 #[.agg #[.string (rs p), .string (rs q)], vV r] w fun e w' => e = .returned (.tuple #[vV (turnV p q r), .int .i64 0]) ∧ Below w.heap.size w w' := by
  have zA := szV_axA hp hq
  have zS := szV_axS hp (show 1 ≤ 41 by decide)
  have zU := szV_axU hp hq
  exact at_Turn_ok _ _ _ _ _ _ _ _ _ _ _ _ _ _ _ _ _ w hE (fun w hE => at_pointV p q r w hE hp hq hr hi) (fun w hE => at_axes p q w hE (hp.mono (by decide)) (hq.mono (by decide)) hi)
    (fun w hE => ve_Dot (axA p q) r w hE (zA.mono (by decide)) (hr.mono (by decide))) (fun w hE => ve_Dot (axS p) r w hE (zS.mono (by decide)) (hr.mono (by decide))) (fun w hE => ve_Dot (axU p q) r w hE (zU.mono (by decide)) (hr.mono (by decide)))
theorem addV_0 (v : V3) : addV ⟨0, 0, 0⟩ v = v := by
  unfold addV
  simp only [show ∀ x : Rat, 0 + x = x from fun x => by grind]
theorem szV_back {k : Nat} {p q : Rat} {v : V3} (hp : Sz 41 p) (hq : Sz 41 q) (hv : SzV k v) : SzV (16 * (1328 + k)) (backV p q v) := by
  have zA := szV_axA hp hq
  have zS := szV_axS hp (show 1 ≤ 41 by decide)
  have zU := szV_axU hp hq
  have h1 := szV_scale zA hv.1
  have h2 := szV_scale zS hv.2.1
  have h3 := szV_scale zU hv.2.2
  have h4 := szV_add (k := 32 * 41 + 16 + k) h1 h2
  have h5 := szV_add (k := 4 * (32 * 41 + 16 + k)) h4 (h3.mono (by omega))
  exact h5.mono (by omega)
theorem at_BackV (p q : Rat) (r : V3) (w : World) (hE : Env w) (hp : Sz 41 p) (hq : Sz 41 q) (hr : SzV 28000 r) (hi : inR p q = true) :
    Calls Tryz.prog 58 #[.agg #[.string (rs p), .string (rs q)], vV r] w fun e w' => e = .returned (.tuple #[vV (backV p q r), .int .i64 0]) ∧ Below w.heap.size w w' := by
  have zA := szV_axA hp hq
  have zS := szV_axS hp (show 1 ≤ 41 by decide)
  have zU := szV_axU hp hq
  have h1 := szV_scale zA hr.1
  have h2 := szV_scale zS hr.2.1
  have h3 := szV_scale zU hr.2.2
  have h4 := szV_add (k := 32 * 41 + 16 + 28000) h1 h2
  refine at_Back_ok _ _ _ _ _ _ _ _ _ _ _ _ _ _ _ _ _ _ _ _ _ _ _ _ _ _ _ _ _ _ _ _ w hE (fun w hE => at_pointV p q r w hE hp hq (hr.mono (by decide)) hi) (fun w hE => at_axes p q w hE (hp.mono (by decide)) (hq.mono (by decide)) hi)
    (fun w hE => ve_Scale (axA p q) r.x w hE (zA.mono (by decide)) (hr.1.mono (by decide))) ?_ (fun w hE => ve_Scale (axS p) r.y w hE (zS.mono (by decide)) (hr.2.1.mono (by decide)))
    (fun w hE => ve_Add (scaleV (axA p q) r.x) (scaleV (axS p) r.y) w hE (h1.mono (by decide)) (h2.mono (by decide))) (fun w hE => ve_Scale (axU p q) r.z w hE (zU.mono (by decide)) (hr.2.2.mono (by decide)))
    (fun w hE => ve_Add (addV (scaleV (axA p q) r.x) (scaleV (axS p) r.y)) (scaleV (axU p q) r.z) w hE (h4.mono (by decide)) (h3.mono (by decide)))
  intro w hE
  have k := ve_Add ⟨0, 0, 0⟩ (scaleV (axA p q) r.x) w hE ⟨sz_0 _ (by decide), sz_0 _ (by decide), sz_0 _ (by decide)⟩ (h1.mono (by decide))
  rw [addV_0] at k
  simp only [vV, rs_0] at k
  exact k


set_option maxRecDepth 100000 in
set_option maxHeartbeats 4000000 in
theorem la16_ret_long (h t r0 r1 r2 : ByteArray) (b1 b2 : Bool) (w : World) (hE : Env w) (hb12 : (b1 && b2) = false)
    (hs : ∀ w, Env w → Calls Tryz.prog 14 #[.agg #[.string h, .string t]] w fun e w' => e = .returned (.bool b1) ∧ Below w.heap.size w w')
    (ht : ∀ w, Env w → Calls Tryz.prog 40 #[.agg #[.string r0, .string r1, .string r2]] w fun e w' => e = .returned (.bool b2) ∧ Below w.heap.size w w') :
    Calls Tryz.prog 10 #[.agg #[.string h, .string t], .agg #[.string r0, .string r1, .string r2]] w fun e w' => e = .returned (.bool true) ∧ Below w.heap.size w w' := by
  cases b1
  · clear hb12
    have H0 := Lib.hid (fun w hE => la16_awake w hE)
    have HS := Lib.hid hs
    have HT := Lib.hid ht
    have HE := Lib.hid hE
    clear hE hs ht 
    go_enter Tryz.func10, Tryz.ntmps10
    go_wp2_with fail
    generalize hW : (World.alloc w _).alloc _ = W
    obtain ⟨hB, hsz, RA, RB⟩ := A2 hW
    have RA := Lib.hid RA
    have RB := Lib.hid RB
    clear hW hsz
    refine (H0.out _ (HE.out.below hB)).mono ?_
    rintro e w1 ⟨rfl, hb⟩
    replace hB := bstep hB hb
    have RA := Lib.hid (keep hb RA.out)
    have RB := Lib.hid (keep hb RB.out)
    clear hb
    obtain ⟨c0, c1, f0, f1⟩ := row2 RA.out
    go_wp2_with fail
    clear c0 c1 f0 f1
    refine (HS.out _ (HE.out.below hB)).mono ?_
    rintro e w2 ⟨rfl, hb⟩
    replace hB := bstep hB hb
    have RA := Lib.hid (keep hb RA.out)
    have RB := Lib.hid (keep hb RB.out)
    clear hb
    go_wp2_with fail
    go_ret
    exact ⟨rfl, hB⟩
  · cases b2
    · clear hb12
      have H0 := Lib.hid (fun w hE => la16_awake w hE)
      have HS := Lib.hid hs
      have HT := Lib.hid ht
      have HE := Lib.hid hE
      clear hE hs ht 
      go_enter Tryz.func10, Tryz.ntmps10
      go_wp2_with fail
      generalize hW : (World.alloc w _).alloc _ = W
      obtain ⟨hB, hsz, RA, RB⟩ := A2 hW
      have RA := Lib.hid RA
      have RB := Lib.hid RB
      clear hW hsz
      refine (H0.out _ (HE.out.below hB)).mono ?_
      rintro e w1 ⟨rfl, hb⟩
      replace hB := bstep hB hb
      have RA := Lib.hid (keep hb RA.out)
      have RB := Lib.hid (keep hb RB.out)
      clear hb
      obtain ⟨c0, c1, f0, f1⟩ := row2 RA.out
      go_wp2_with fail
      clear c0 c1 f0 f1
      refine (HS.out _ (HE.out.below hB)).mono ?_
      rintro e w2 ⟨rfl, hb⟩
      replace hB := bstep hB hb
      have RA := Lib.hid (keep hb RA.out)
      have RB := Lib.hid (keep hb RB.out)
      clear hb
      obtain ⟨RBc0, RBc1, RBc2, RBf0, RBf1, RBf2⟩ := row3 RB.out
      go_wp2_with fail
      clear RBc0 RBc1 RBc2 RBf0 RBf1 RBf2
      refine (HT.out _ (HE.out.below hB)).mono ?_
      rintro e w3 ⟨rfl, hb⟩
      replace hB := bstep hB hb
      have RA := Lib.hid (keep hb RA.out)
      have RB := Lib.hid (keep hb RB.out)
      clear hb
      go_wp2_with fail
      go_ret
      exact ⟨rfl, hB⟩
    · exact absurd hb12 (by decide)


set_option maxRecDepth 100000 in
set_option maxHeartbeats 4000000 in
theorem la16_ret_bad (h t r0 r1 r2 : ByteArray) (cc : Int) (w : World) (hE : Env w) (hc1 : (cc != 0) = true)
    (hs : ∀ w, Env w → Calls Tryz.prog 14 #[.agg #[.string h, .string t]] w fun e w' => e = .returned (.bool true) ∧ Below w.heap.size w w')
    (ht : ∀ w, Env w → Calls Tryz.prog 40 #[.agg #[.string r0, .string r1, .string r2]] w fun e w' => e = .returned (.bool true) ∧ Below w.heap.size w w')
    (h1 : ∀ w, Env w → Calls Tryz.prog 41 #[.agg #[.string h, .string t], .agg #[.string r0, .string r1, .string r2]] w fun e w' => e = .returned (.tuple #[.agg #[.string ⟨#[]⟩, .string ⟨#[]⟩, .string ⟨#[]⟩], .int .i64 cc]) ∧ Below w.heap.size w w')
    (h2 : ∀ w, Env w → Calls Tryz.prog 58 #[.agg #[.string h, .string t], .agg #[.string r0, .string r1, .string r2]] w fun e w' => e = .returned (.tuple #[.agg #[.string ⟨#[]⟩, .string ⟨#[]⟩, .string ⟨#[]⟩], .int .i64 cc]) ∧ Below w.heap.size w w') :
    Calls Tryz.prog 10 #[.agg #[.string h, .string t], .agg #[.string r0, .string r1, .string r2]] w fun e w' => e = .returned (.bool true) ∧ Below w.heap.size w w' := by
  have H0 := Lib.hid (fun w hE => la16_awake w hE)
  have HS := Lib.hid hs
  have HT := Lib.hid ht
  have H1 := Lib.hid h1
  have H2 := Lib.hid h2
  have HE := Lib.hid hE
  clear hE hs ht h1 h2
  go_enter Tryz.func10, Tryz.ntmps10
  go_wp2_with fail
  generalize hW : (World.alloc w _).alloc _ = W
  obtain ⟨hB, hsz, RA, RB⟩ := A2 hW
  have RA := Lib.hid RA
  have RB := Lib.hid RB
  clear hW hsz
  refine (H0.out _ (HE.out.below hB)).mono ?_
  rintro e w1 ⟨rfl, hb⟩
  replace hB := bstep hB hb
  have RA := Lib.hid (keep hb RA.out)
  have RB := Lib.hid (keep hb RB.out)
  clear hb
  obtain ⟨c0, c1, f0, f1⟩ := row2 RA.out
  go_wp2_with fail
  clear c0 c1 f0 f1
  refine (HS.out _ (HE.out.below hB)).mono ?_
  rintro e w2 ⟨rfl, hb⟩
  replace hB := bstep hB hb
  have RA := Lib.hid (keep hb RA.out)
  have RB := Lib.hid (keep hb RB.out)
  clear hb
  obtain ⟨RBc0, RBc1, RBc2, RBf0, RBf1, RBf2⟩ := row3 RB.out
  go_wp2_with fail
  clear RBc0 RBc1 RBc2 RBf0 RBf1 RBf2
  refine (HT.out _ (HE.out.below hB)).mono ?_
  rintro e w3 ⟨rfl, hb⟩
  replace hB := bstep hB hb
  have RA := Lib.hid (keep hb RA.out)
  have RB := Lib.hid (keep hb RB.out)
  clear hb
  obtain ⟨c0, c1, f0, f1⟩ := row2 RA.out
  have lRA := lp2 RA.out
  obtain ⟨RBc0, RBc1, RBc2, RBf0, RBf1, RBf2⟩ := row3 RB.out
  have lRB := lp2 RB.out
  go_wp2_with fail
  clear c0 c1 f0 f1
  clear RBc0 RBc1 RBc2 RBf0 RBf1 RBf2
  clear lRA lRB
  refine (H1.out _ (HE.out.below hB)).mono ?_
  rintro e w4 ⟨rfl, hb⟩
  replace hB := bstep hB hb
  have RA := Lib.hid (keep hb RA.out)
  have RB := Lib.hid (keep hb RB.out)
  clear hb
  obtain ⟨c0, c1, f0, f1⟩ := row2 RA.out
  have lRA := lp2 RA.out
  obtain ⟨RBc0, RBc1, RBc2, RBf0, RBf1, RBf2⟩ := row3 RB.out
  have lRB := lp2 RB.out
  go_wp2_with fail
  clear c0 c1 f0 f1
  clear RBc0 RBc1 RBc2 RBf0 RBf1 RBf2
  clear lRA lRB
  generalize hW : World.alloc _ _ = V4
  obtain ⟨hb, hsz, RV⟩ := A1 hW
  replace hB := bstep hB hb
  have RA := Lib.hid (keep hb RA.out)
  have RB := Lib.hid (keep hb RB.out)
  clear hb
  have RV := Lib.hid RV
  clear hW hsz
  refine (H2.out _ (HE.out.below hB)).mono ?_
  rintro e w5 ⟨rfl, hb⟩
  replace hB := bstep hB hb
  have RA := Lib.hid (keep hb RA.out)
  have RB := Lib.hid (keep hb RB.out)
  have RV := Lib.hid (keep hb RV.out)
  clear hb
  go_upto_region 7 with fail
  generalize hW : World.alloc _ _ = V5
  obtain ⟨hb, hsz, RW⟩ := A1 hW
  replace hB := bstep hB hb
  have RA := Lib.hid (keep hb RA.out)
  have RB := Lib.hid (keep hb RB.out)
  have RV := Lib.hid (keep hb RV.out)
  clear hb
  have RW := Lib.hid RW
  clear hW hsz
  obtain ⟨RVc0, RVc1, RVc2, RVf0, RVf1, RVf2⟩ := row3 RV.out
  obtain ⟨RWc0, RWc1, RWc2, RWf0, RWf1, RWf2⟩ := row3 RW.out
  go_wp2_with fail
  go_ret
  exact ⟨rfl, hB⟩


set_option maxRecDepth 100000 in
set_option maxHeartbeats 4000000 in
theorem la16_ret_ok (h t r0 r1 r2 v0 v1 v2 u0 u1 u2 d : ByteArray) (b0 b1 b2 : Bool) (w : World) (hE : Env w)
    (hs : ∀ w, Env w → Calls Tryz.prog 14 #[.agg #[.string h, .string t]] w fun e w' => e = .returned (.bool true) ∧ Below w.heap.size w w')
    (ht : ∀ w, Env w → Calls Tryz.prog 40 #[.agg #[.string r0, .string r1, .string r2]] w fun e w' => e = .returned (.bool true) ∧ Below w.heap.size w w')
    (h1 : ∀ w, Env w → Calls Tryz.prog 41 #[.agg #[.string h, .string t], .agg #[.string r0, .string r1, .string r2]] w fun e w' => e = .returned (.tuple #[.agg #[.string v0, .string v1, .string v2], .int .i64 0]) ∧ Below w.heap.size w w')
    (h2 : ∀ w, Env w → Calls Tryz.prog 58 #[.agg #[.string h, .string t], .agg #[.string r0, .string r1, .string r2]] w fun e w' => e = .returned (.tuple #[.agg #[.string u0, .string u1, .string u2], .int .i64 0]) ∧ Below w.heap.size w w')
    (h3 : ∀ w, Env w → Calls Tryz.prog 58 #[.agg #[.string h, .string t], .agg #[.string v0, .string v1, .string v2]] w fun e w' => e = .returned (.tuple #[.agg #[.string r0, .string r1, .string r2], .int .i64 0]) ∧ Below w.heap.size w w')
    (h4 : ∀ w, Env w → Calls Tryz.prog 41 #[.agg #[.string h, .string t], .agg #[.string u0, .string u1, .string u2]] w fun e w' => e = .returned (.tuple #[.agg #[.string r0, .string r1, .string r2], .int .i64 0]) ∧ Below w.heap.size w w')
    (h5 : ∀ w, Env w → Calls Tryz.prog 16 #[.agg #[.string v0, .string v1, .string v2]] w fun e w' => ∃ u : VS, e = .returned (.tuple #[vW b0 b1 b2 u, .bool true]) ∧ Below w.heap.size w w')
    (h6 : ∀ w, Env w → Calls Tryz.prog 17 #[.agg #[.string v0, .string v1, .string v2], .agg #[.string v0, .string v1, .string v2]] w fun e w' => e = .returned (.string d) ∧ Below w.heap.size w w')
    (h7 : ∀ w, Env w → Calls Tryz.prog 17 #[.agg #[.string r0, .string r1, .string r2], .agg #[.string r0, .string r1, .string r2]] w fun e w' => e = .returned (.string d) ∧ Below w.heap.size w w') :
    Calls Tryz.prog 10 #[.agg #[.string h, .string t], .agg #[.string r0, .string r1, .string r2]] w fun e w' => e = .returned (.bool true) ∧ Below w.heap.size w w' := by
  have H0 := Lib.hid (fun w hE => la16_awake w hE)
  have HS := Lib.hid hs
  have HT := Lib.hid ht
  have H1 := Lib.hid h1
  have H2 := Lib.hid h2
  have H3 := Lib.hid h3
  have H4 := Lib.hid h4
  have H5 := Lib.hid h5
  have H6 := Lib.hid h6
  have H7 := Lib.hid h7
  have HE := Lib.hid hE
  clear hE hs ht h1 h2 h3 h4 h5 h6 h7
  go_enter Tryz.func10, Tryz.ntmps10
  go_wp2_with fail
  generalize hW : (World.alloc w _).alloc _ = W
  obtain ⟨hB, hsz, RA, RB⟩ := A2 hW
  have RA := Lib.hid RA
  have RB := Lib.hid RB
  clear hW hsz
  refine (H0.out _ (HE.out.below hB)).mono ?_
  rintro e w1 ⟨rfl, hb⟩
  replace hB := bstep hB hb
  have RA := Lib.hid (keep hb RA.out)
  have RB := Lib.hid (keep hb RB.out)
  clear hb
  obtain ⟨c0, c1, f0, f1⟩ := row2 RA.out
  go_wp2_with fail
  clear c0 c1 f0 f1
  refine (HS.out _ (HE.out.below hB)).mono ?_
  rintro e w2 ⟨rfl, hb⟩
  replace hB := bstep hB hb
  have RA := Lib.hid (keep hb RA.out)
  have RB := Lib.hid (keep hb RB.out)
  clear hb
  obtain ⟨RBc0, RBc1, RBc2, RBf0, RBf1, RBf2⟩ := row3 RB.out
  go_wp2_with fail
  clear RBc0 RBc1 RBc2 RBf0 RBf1 RBf2
  refine (HT.out _ (HE.out.below hB)).mono ?_
  rintro e w3 ⟨rfl, hb⟩
  replace hB := bstep hB hb
  have RA := Lib.hid (keep hb RA.out)
  have RB := Lib.hid (keep hb RB.out)
  clear hb
  obtain ⟨c0, c1, f0, f1⟩ := row2 RA.out
  have lRA := lp2 RA.out
  obtain ⟨RBc0, RBc1, RBc2, RBf0, RBf1, RBf2⟩ := row3 RB.out
  have lRB := lp2 RB.out
  go_wp2_with fail
  clear c0 c1 f0 f1
  clear RBc0 RBc1 RBc2 RBf0 RBf1 RBf2
  clear lRA lRB
  refine (H1.out _ (HE.out.below hB)).mono ?_
  rintro e w4 ⟨rfl, hb⟩
  replace hB := bstep hB hb
  have RA := Lib.hid (keep hb RA.out)
  have RB := Lib.hid (keep hb RB.out)
  clear hb
  obtain ⟨c0, c1, f0, f1⟩ := row2 RA.out
  have lRA := lp2 RA.out
  obtain ⟨RBc0, RBc1, RBc2, RBf0, RBf1, RBf2⟩ := row3 RB.out
  have lRB := lp2 RB.out
  go_wp2_with fail
  clear c0 c1 f0 f1
  clear RBc0 RBc1 RBc2 RBf0 RBf1 RBf2
  clear lRA lRB
  generalize hW : World.alloc _ _ = V4
  obtain ⟨hb, hsz, RV⟩ := A1 hW
  replace hB := bstep hB hb
  have RA := Lib.hid (keep hb RA.out)
  have RB := Lib.hid (keep hb RB.out)
  clear hb
  have RV := Lib.hid RV
  clear hW hsz
  refine (H2.out _ (HE.out.below hB)).mono ?_
  rintro e w5 ⟨rfl, hb⟩
  replace hB := bstep hB hb
  have RA := Lib.hid (keep hb RA.out)
  have RB := Lib.hid (keep hb RB.out)
  have RV := Lib.hid (keep hb RV.out)
  clear hb
  go_upto_region 7 with fail
  generalize hW : World.alloc _ _ = V5
  obtain ⟨hb, hsz, RW⟩ := A1 hW
  replace hB := bstep hB hb
  have RA := Lib.hid (keep hb RA.out)
  have RB := Lib.hid (keep hb RB.out)
  have RV := Lib.hid (keep hb RV.out)
  clear hb
  have RW := Lib.hid RW
  clear hW hsz
  obtain ⟨c0, c1, f0, f1⟩ := row2 RA.out
  have lRA := lp2 RA.out
  obtain ⟨RVc0, RVc1, RVc2, RVf0, RVf1, RVf2⟩ := row3 RV.out
  have lRV := lp2 RV.out
  go_wp2_with fail
  clear c0 c1 f0 f1
  clear RVc0 RVc1 RVc2 RVf0 RVf1 RVf2
  clear lRA lRV
  refine (H3.out _ (HE.out.below hB)).mono ?_
  rintro e w6 ⟨rfl, hb⟩
  replace hB := bstep hB hb
  have RA := Lib.hid (keep hb RA.out)
  have RB := Lib.hid (keep hb RB.out)
  have RV := Lib.hid (keep hb RV.out)
  have RW := Lib.hid (keep hb RW.out)
  clear hb
  obtain ⟨c0, c1, f0, f1⟩ := row2 RA.out
  have lRA := lp2 RA.out
  obtain ⟨RWc0, RWc1, RWc2, RWf0, RWf1, RWf2⟩ := row3 RW.out
  have lRW := lp2 RW.out
  go_wp2_with fail
  clear c0 c1 f0 f1
  clear RWc0 RWc1 RWc2 RWf0 RWf1 RWf2
  clear lRA lRW
  generalize hW : World.alloc _ _ = V6
  obtain ⟨hb, hsz, RX⟩ := A1 hW
  replace hB := bstep hB hb
  have RA := Lib.hid (keep hb RA.out)
  have RB := Lib.hid (keep hb RB.out)
  have RV := Lib.hid (keep hb RV.out)
  have RW := Lib.hid (keep hb RW.out)
  clear hb
  have RX := Lib.hid RX
  clear hW hsz
  refine (H4.out _ (HE.out.below hB)).mono ?_
  rintro e w7 ⟨rfl, hb⟩
  replace hB := bstep hB hb
  have RB := Lib.hid (keep hb RB.out)
  have RV := Lib.hid (keep hb RV.out)
  have RX := Lib.hid (keep hb RX.out)
  clear hb
  go_upto_region 11 with fail
  generalize hW : World.alloc _ _ = V7
  obtain ⟨hb, hsz, RY⟩ := A1 hW
  replace hB := bstep hB hb
  have RB := Lib.hid (keep hb RB.out)
  have RV := Lib.hid (keep hb RV.out)
  have RX := Lib.hid (keep hb RX.out)
  clear hb
  have RY := Lib.hid RY
  clear hW hsz
  obtain ⟨RVc0, RVc1, RVc2, RVf0, RVf1, RVf2⟩ := row3 RV.out
  go_wp2_with fail
  clear RVc0 RVc1 RVc2 RVf0 RVf1 RVf2
  refine (H5.out _ (HE.out.below hB)).mono ?_
  rintro e w8 ⟨u, rfl, hb⟩
  replace hB := bstep hB hb
  have RB := Lib.hid (keep hb RB.out)
  have RV := Lib.hid (keep hb RV.out)
  have RX := Lib.hid (keep hb RX.out)
  have RY := Lib.hid (keep hb RY.out)
  clear hb
  go_upto_region 12 with fail
  generalize hW : World.alloc _ _ = T
  obtain ⟨hb, hsz, RT⟩ := A1 hW
  replace hB := bstep hB hb
  have RB := Lib.hid (keep hb RB.out)
  have RV := Lib.hid (keep hb RV.out)
  have RX := Lib.hid (keep hb RX.out)
  have RY := Lib.hid (keep hb RY.out)
  clear hb
  have RT := Lib.hid RT
  clear hW hsz
  go_wp2_with fail
  have D1 := Lib.hid (fun W (hb : Below T.heap.size T W) => H6.out W (HE.out.below (bstep hB hb)))
  have D2 := Lib.hid (fun W (hb : Below T.heap.size T W) => H7.out W (HE.out.below (bstep hB hb)))
  clear H6 H7
  have LRX := fun (w' : World) (h : Ap T.heap.size T.heap.size T w') => rowc3 (h.rowV RX.out)
  have LRB := fun (w' : World) (h : Ap T.heap.size T.heap.size T w') => rowc3 (h.rowV RB.out)
  have LRY := fun (w' : World) (h : Ap T.heap.size T.heap.size T w') => rowc3 (h.rowV RY.out)
  have LRV := fun (w' : World) (h : Ap T.heap.size T.heap.size T w') => rowc3 (h.rowV RV.out)
  have hvr := Below.refl T.heap.size T
  have hv0 := hvr.drew
  first
  | go_region_held3 (fun w' => Ap T.heap.size T.heap.size T w') (first | (with_reducible assumption) | (with_reducible exact Ap.refl _ _ _) | ((repeat (first | with_reducible assumption | with_reducible exact Ap.refl _ _ _ | with_reducible refine Ap.drew ?_ | with_reducible refine Ap.alloc ?_ | with_reducible refine Ap.set1 ?_ | with_reducible refine Ap.set2 ?_ | with_reducible refine Ap.setN (by first | with_reducible assumption | with_reducible exact Nat.le_refl _ | with_reducible exact Nat.le_add_right _ _ | with_reducible exact Nat.le_trans (by assumption) (Nat.le_add_right _ _)) ?_)); done))
      (first
        | (go_at_call 17; (with_reducible refine (D1.out _ (by first | with_reducible exact hv0)).mono ?_); rintro e wq0 ⟨rfl, hb⟩; have hv1 : Below T.heap.size T wq0 := (by first | with_reducible exact bstep (hv0) hb); have hs1 := Ap.of_below (g := T.heap.size) (h := T.heap.size) hv1; have sz1 := hv1.size; clear hb)
        | (go_at_call 17; (with_reducible refine (D2.out _ (by first | with_reducible exact hv1)).mono ?_); rintro e wq1 ⟨rfl, hb⟩; have hv2 : Below T.heap.size T wq1 := (by first | with_reducible exact bstep (hv1) hb); have hs2 := Ap.of_below (g := T.heap.size) (h := T.heap.size) hv2; have sz2 := hv2.size; clear hb))
  | fail
  all_goals
    go_wp2_with fail
    go_ret
    exact ⟨rfl, bstep hB hv2⟩

end Go.Proofs.YtgbabmkclojgeaaGreatDoor

/- The law AttitudeReturns answers true at whatever strings. -/
namespace Go.Proofs.YtgbabmkclojgeaaGreatDoor
open Go.RowKit Go.Shelf Go.Sort

theorem la_returns (h t r0 r1 r2 : ByteArray) (w : World) (hE : Env w) (hm : h.size ≤ 9223372036854775807 ∧ t.size ≤ 9223372036854775807) (hr : Mx (r0, r1, r2)) :
    Calls Tryz.prog 10 #[.agg #[.string h, .string t], .agg #[.string r0, .string r1, .string r2]] w fun e w' => e = .returned (.bool true) ∧ Below w.heap.size w w' := by
  have hS := fun (w : World) (_ : Env w) => r16_ShortA h t w hm.1 hm.2
  have hT := fun (w : World) (_ : Env w) => r16_ShortV r0 r1 r2 w hr.1 hr.2.1 hr.2.2
  by_cases hs : (h.size ≤ 40 ∧ t.size ≤ 40) ∧ r0.size ≤ 40 ∧ r1.size ≤ 40 ∧ r2.size ≤ 40
  · obtain ⟨⟨s1, s2⟩, s3, s4, s5⟩ := hs
    simp only [decide_eq_true s1, decide_eq_true s2, Bool.and_self] at hS
    simp only [decide_eq_true s3, decide_eq_true s4, decide_eq_true s5, Bool.and_self] at hT
    cases hk : (((rvB h && rvB t) && vvB (r0, r1, r2)) && inR (rvX h) (rvX t)) with
    | false =>
      have hU := fun w hE => at_TurnA (h, t) (r0, r1, r2) w hE s1 s2 s3 s4 s5
      simp only [hk] at hU
      have fw : ∀ {k : Nat}, k ≤ 40 → k ≤ 10000000 := fun h => Nat.le_trans h (by decide)
      have hP := fun w hE => at_pointA (h, t) (r0, r1, r2) w hE s1 s2 ⟨fw s3, fw s4, fw s5⟩
      exact la16_ret_bad h t r0 r1 r2 _ w hE (acode_ne hk) hS hT hU (fun w hE => at_Back_err _ _ _ _ _ _ w hE (acode_ne hk) hP)
    | true =>
      rw [Bool.and_eq_true, Bool.and_eq_true, Bool.and_eq_true] at hk
      have z1 : Sz 41 (rvX h) := sz_rvX s1 (by decide)
      have z2 : Sz 41 (rvX t) := sz_rvX s2 (by decide)
      have zr : SzV 41 (vvX (r0, r1, r2)) := ⟨sz_rvX s3 (by decide), sz_rvX s4 (by decide), sz_rvX s5 (by decide)⟩
      obtain ⟨et, eh⟩ := at_texts (s := (h, t)) (by rw [Bool.and_eq_true]; exact hk.1.1)
      have er := vv_text hk.1.2
      simp only [Prod.mk.injEq] at er
      simp only at et eh
      have hi := hk.2
      clear hk
      generalize rvX h = p at *
      generalize rvX t = q at *
      generalize vvX (r0, r1, r2) = r at *
      obtain ⟨e0, e1, e2⟩ := er
      subst et eh e0 e1 e2
      have zv := szV_turn z1 z2 zr (by decide)
      have zu := szV_back z1 z2 zr
      have H3 := fun w hE => at_BackV p q (turnV p q r) w hE z1 z2 (zv.mono (by decide)) hi
      rw [back_turn] at H3
      have H4 := fun w hE => at_TurnV p q (backV p q r) w hE z1 z2 (zu.mono (by decide)) hi
      rw [turn_back] at H4
      have H6 := fun (w : World) (_ : Env w) => la16_dot (turnV p q r) (turnV p q r) w (zv.mono (by decide)) (zv.mono (by decide))
      rw [turn_len] at H6
      have up : ∀ {v : V3}, SzV (20 * (32 * 41 + 16)) v → Sh6 (rs v.x, rs v.y, rs v.z) := fun {v} h => by
        obtain ⟨h1, h2, h3⟩ := h
        have e1 := rs_size v.x
        have e2 := rs_size v.y
        have e3 := rs_size v.z
        exact ⟨by have := h1.1; have := h1.2; show (rs v.x).size ≤ 1000000; omega, by have := h2.1; have := h2.2; show (rs v.y).size ≤ 1000000; omega, by have := h3.1; have := h3.2; show (rs v.z).size ≤ 1000000; omega⟩
      have H5 : ∀ w, Env w → Calls Tryz.prog 16 #[.agg #[.string (rs (turnV p q r).x), .string (rs (turnV p q r).y), .string (rs (turnV p q r).z)]] w fun e w' => ∃ u : VS, e = .returned (.tuple #[vW (sgB (vvX (rs (turnV p q r).x, rs (turnV p q r).y, rs (turnV p q r).z)).x.num) (sgB (vvX (rs (turnV p q r).x, rs (turnV p q r).y, rs (turnV p q r).z)).y.num) (sgB (vvX (rs (turnV p q r).x, rs (turnV p q r).y, rs (turnV p q r).z)).z.num) u, .bool true]) ∧ Below w.heap.size w w' := by
        intro w _
        have k := r16_Vec (rs (turnV p q r).x, rs (turnV p q r).y, rs (turnV p q r).z) w (up zv)
        rw [vvB_rs] at k
        exact k.mono fun e w' ⟨u, h1, _, h2⟩ => ⟨u, h1, h2⟩
      exact la16_ret_ok (rs p) (rs q) (rs r.x) (rs r.y) (rs r.z) _ _ _ _ _ _ (rs (dotV r r)) _ _ _ w hE hS hT (fun w hE => at_TurnV p q r w hE z1 z2 (zr.mono (by decide)) hi) (fun w hE => at_BackV p q r w hE z1 z2 (zr.mono (by decide)) hi) H3 H4 H5 H6
        (fun w _ => la16_dot r r w (zr.mono (by decide)) (zr.mono (by decide)))
  · exact la16_ret_long h t r0 r1 r2 _ _ w hE (by
      by_cases k1 : h.size ≤ 40 ∧ t.size ≤ 40
      · have k2 : ¬ (r0.size ≤ 40 ∧ r1.size ≤ 40 ∧ r2.size ≤ 40) := fun q => hs ⟨k1, q⟩
        have : (decide (r0.size ≤ 40) && (decide (r1.size ≤ 40) && decide (r2.size ≤ 40))) = false := by
          rw [Bool.eq_false_iff]; intro q; rw [Bool.and_eq_true, Bool.and_eq_true, decide_eq_true_iff, decide_eq_true_iff, decide_eq_true_iff] at q; exact k2 q
        rw [this, Bool.and_false]
      · have : (decide (h.size ≤ 40) && decide (t.size ≤ 40)) = false := by
          rw [Bool.eq_false_iff]; intro q; rw [Bool.and_eq_true, decide_eq_true_iff, decide_eq_true_iff] at q; exact k1 q
        rw [this, Bool.false_and]) hS hT
end Go.Proofs.YtgbabmkclojgeaaGreatDoor
