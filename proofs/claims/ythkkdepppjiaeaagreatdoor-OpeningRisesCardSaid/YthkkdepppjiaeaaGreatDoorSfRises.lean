/- A PART OF THE PROOF, JOINED OUT OF 2 TEXTS. -/
import Derived.Test.YthkkdepppjiaeaaGreatDoorScOpening
import Derived.Test.YthkkdepppjiaeaaGreatDoorSaOpening
import Derived.Test.YthkkdepppjiaeaaGreatDoorQxMirrors
import Derived.Test.YthkkdepppjiaeaaGreatDoorPnLaw
/- The law OpeningRises: the walks. -/
namespace Go.Proofs.YthkkdepppjiaeaaGreatDoor
open Go.RowKit Go.Shelf Go.Sort

attribute [local go_sem] Oper.semAt_some

theorem rowc4 {W : World} {g : Nat} {a b c d : Value} {t : TypeId} (h : W.heap[g]? = some (.cells #[a, b, c, d] t (0, 0))) : W.cell? ⟨g, 0, none⟩ = some a ∧ W.cell? ⟨g, 1, none⟩ = some b ∧ W.cell? ⟨g, 2, none⟩ = some c ∧ W.cell? ⟨g, 3, none⟩ = some d :=
  ⟨cell_of_row W _ 0 _ _ _ h, cell_of_row W _ 1 _ _ _ h, cell_of_row W _ 2 _ _ _ h, cell_of_row W _ 3 _ _ _ h⟩


set_option maxRecDepth 100000 in
set_option maxHeartbeats 16000000 in
theorem op_moved (i3 i4 : Nat) (oi of ot ok : Int) (r0 r1 r2 : ByteArray) (h t lo hi : ByteArray) (x y : Rat) (v : Int) (a b c d : Sl) (w : World) (hE : Env w) (zx : Sz 1000000 x) (zy : Sz 1000000 y) (h3 : w.heap[i3]? = some (.cells #[.int .i64 oi, .int .i64 of, .int .i64 ot, .int .i64 ok, .string r0, .string r1, .string r2] 26 (0, 0))) (h4 : w.heap[i4]? = some (.cells #[.string h, .string t, .string lo, .string hi] 32 (0, 0))) (hx : RQ w a b x) (hy : RQ w c d y)
    (hw : ∀ w, Env w → Calls Tryz.prog 14 #[.agg #[.int .i64 oi, .int .i64 of, .int .i64 ot, .int .i64 ok, .string r0, .string r1, .string r2], .agg #[.string h, .string t, .string (rs x), .string (rs y)]] w fun e w' => e = .returned (.tuple #[.int .i64 v, .int .i64 0]) ∧ Below w.heap.size w w') :
    Calls Tryz.prog 20 #[qW (sgB x.num) a b, qW (sgB y.num) c d, .pointer (some ⟨i3, 0, none⟩), .pointer (some ⟨i4, 0, none⟩)] w fun e w' => e = .returned (.tuple #[.int .i64 v, .int .i64 0]) ∧ Below w.heap.size w w' := by
  have T1 := Lib.hid (fun W a b (k : RQ W a b x) => r3_To x a b W k (zx.mono (by decide)))
  have T2 := Lib.hid (fun W a b (k : RQ W a b y) => r3_To y a b W k (zy.mono (by decide)))
  have R3 := Lib.hid h3
  have R4 := Lib.hid h4
  have K1 := Lib.hid hx
  have K2 := Lib.hid hy
  have HW := Lib.hid hw
  have HE := Lib.hid hE
  clear zx zy h3 h4 hx hy hw hE
  generalize rs x = X at *
  generalize rs y = Y at *
  generalize sgB x.num = bx at *
  generalize sgB y.num = by_ at *
  go_enter Tryz.func20, Tryz.ntmps20
  go_upto_region 1 with fail
  generalize hW : World.alloc (World.alloc w _) _ = V
  obtain ⟨hB, hsz, R5, R6⟩ := A2 hW
  have R3 := Lib.hid (keep hB R3.out)
  have R4 := Lib.hid (keep hB R4.out)
  have R5 := Lib.hid R5
  have R6 := Lib.hid R6
  have K1 := Lib.hid (K1.out.below hB)
  have K2 := Lib.hid (K2.out.below hB)
  have T3 := Lib.hid (fun W (hb : Below V.heap.size V W) => HW.out W (HE.out.below (bstep hB hb)))
  clear hW hsz HW
  have LR3 := fun (w' : World) (h : Ap V.heap.size V.heap.size V w') => rowc7 (h.rowV R3.out)
  have LR4 := fun (w' : World) (h : Ap V.heap.size V.heap.size V w') => rowc4 (h.rowV R4.out)
  have LR5 := fun (w' : World) (h : Ap V.heap.size V.heap.size V w') => rowc3 (h.rowV R5.out)
  have LR6 := fun (w' : World) (h : Ap V.heap.size V.heap.size V w') => rowc3 (h.rowV R6.out)
  have hvr := Below.refl V.heap.size V
  have hv0 := hvr.drew
  first
  | go_region_held3 (fun w' => Ap V.heap.size V.heap.size V w') (first | (with_reducible assumption) | (with_reducible exact Ap.refl _ _ _) | ((repeat (first | with_reducible assumption | with_reducible exact Ap.refl _ _ _ | with_reducible refine Ap.drew ?_ | with_reducible refine Ap.alloc ?_ | with_reducible refine Ap.set1 ?_ | with_reducible refine Ap.set2 ?_ | with_reducible refine Ap.setN (by first | with_reducible assumption | with_reducible exact Nat.le_refl _ | with_reducible exact Nat.le_add_right _ _ | with_reducible exact Nat.le_trans (by assumption) (Nat.le_add_right _ _)) ?_)); done))
      (first
        | (go_at_call 21; (with_reducible refine (T1.out _  a b (by first | with_reducible exact K1.out | with_reducible exact (K1.out.below (Below.drew (Below.refl _ _))))).mono ?_); rintro e wq0 ⟨rfl, hb⟩; have hv1 : Below V.heap.size V wq0 := (by first | with_reducible exact bstep (hv0) hb); have hs1 := Ap.of_below (g := V.heap.size) (h := V.heap.size) hv1; have sz1 := hv1.size; have K1 := Lib.hid (by first | with_reducible exact K1.out.below hb | with_reducible exact (K1.out.below (Below.drew (Below.refl _ _))).below hb); have K2 := Lib.hid (by first | with_reducible exact K2.out.below hb | with_reducible exact (K2.out.below (Below.drew (Below.refl _ _))).below hb); clear hb)
        | (go_at_call 21; (with_reducible refine (T2.out _  c d (by first | with_reducible exact K2.out | with_reducible exact (K2.out.below (Below.drew (Below.refl _ _))))).mono ?_); rintro e wq1 ⟨rfl, hb⟩; have hv2 : Below V.heap.size V wq1 := (by first | with_reducible exact bstep (hv1) hb); have hs2 := Ap.of_below (g := V.heap.size) (h := V.heap.size) hv2; have sz2 := hv2.size; have K1 := Lib.hid (by first | with_reducible exact K1.out.below hb | with_reducible exact (K1.out.below (Below.drew (Below.refl _ _))).below hb); have K2 := Lib.hid (by first | with_reducible exact K2.out.below hb | with_reducible exact (K2.out.below (Below.drew (Below.refl _ _))).below hb); clear hb)
        | (go_at_call 14; (with_reducible refine (T3.out _ (by first | with_reducible exact hv2)).mono ?_); rintro e wq2 ⟨rfl, hb⟩; have hv3 : Below V.heap.size V wq2 := (by first | with_reducible exact bstep (hv2) hb); have hs3 := Ap.of_below (g := V.heap.size) (h := V.heap.size) hv3; have sz3 := hv3.size; have K1 := Lib.hid (by first | with_reducible exact K1.out.below hb | with_reducible exact (K1.out.below (Below.drew (Below.refl _ _))).below hb); have K2 := Lib.hid (by first | with_reducible exact K2.out.below hb | with_reducible exact (K2.out.below (Below.drew (Below.refl _ _))).below hb); clear hb))
  | fail
  all_goals
    go_wp2_with fail
    go_ret2
    exact ⟨rfl, bstep hB hv3⟩


set_option maxRecDepth 100000 in
set_option maxHeartbeats 4000000 in
theorem la31_ris_no (oi of ot ok : Int) (r0 r1 r2 : ByteArray) (h t lo hi by_ : ByteArray) (b1 b2 b3 : Bool) (w : World) (hE : Env w) (hr : (b1 && (b2 && b3)) = false)
    (hs : ∀ w, Env w → Calls Tryz.prog 11 #[.agg #[.string r0, .string r1, .string r2]] w fun e w' => e = .returned (.bool b1) ∧ Below w.heap.size w w')
    (hp : ∀ w, Env w → Calls Tryz.prog 12 #[.agg #[.string h, .string t, .string lo, .string hi]] w fun e w' => e = .returned (.bool b2) ∧ Below w.heap.size w w')
    (hy : ∀ w, Env w → Calls Tryz.prog 13 #[.string by_] w fun e w' => e = .returned (.bool b3) ∧ Below w.heap.size w w') :
    Calls Tryz.prog 3 #[.agg #[.int .i64 oi, .int .i64 of, .int .i64 ot, .int .i64 ok, .string r0, .string r1, .string r2], .agg #[.string h, .string t, .string lo, .string hi], .string by_] w fun e w' => e = .returned (.bool true) ∧ Below w.heap.size w w' := by
  have H0 := Lib.hid (fun w hE => la31_awake w hE)
  have HS := Lib.hid hs
  have HP := Lib.hid hp
  have HY := Lib.hid hy
  have HE := Lib.hid hE
  clear hE hs hp hy
  cases b1
  · clear hr
    go_enter Tryz.func3, Tryz.ntmps3
    go_upto_region 1 with fail
    generalize hW : (World.alloc w _).alloc _ = W
    obtain ⟨hB, hsz, R3, R4⟩ := A2 hW
    have R3 := Lib.hid R3
    have R4 := Lib.hid R4
    clear hW hsz
    go_wp2_with fail
    refine (H0.out _ (HE.out.below hB)).mono ?_
    rintro e w1 ⟨rfl, hb⟩
    replace hB := bstep hB hb
    have R3 := Lib.hid (keep hb R3.out)
    have R4 := Lib.hid (keep hb R4.out)
    clear hb
    obtain ⟨R3c0, R3c1, R3c2, R3c3, R3c4, R3c5, R3c6, R3f0, R3f1, R3f2, R3f3, R3f4, R3f5, R3f6⟩ := row7 R3.out
    go_wp2_with fail
    clear R3c0 R3c1 R3c2 R3c3 R3c4 R3c5 R3c6 R3f0 R3f1 R3f2 R3f3 R3f4 R3f5 R3f6
    refine (HS.out _ (HE.out.below hB)).mono ?_
    rintro e w2 ⟨rfl, hb⟩
    replace hB := bstep hB hb
    have R3 := Lib.hid (keep hb R3.out)
    have R4 := Lib.hid (keep hb R4.out)
    clear hb
    go_wp2_with fail
    go_ret
    exact ⟨rfl, hB⟩
  · cases b2
    · clear hr
      go_enter Tryz.func3, Tryz.ntmps3
      go_upto_region 1 with fail
      generalize hW : (World.alloc w _).alloc _ = W
      obtain ⟨hB, hsz, R3, R4⟩ := A2 hW
      have R3 := Lib.hid R3
      have R4 := Lib.hid R4
      clear hW hsz
      go_wp2_with fail
      refine (H0.out _ (HE.out.below hB)).mono ?_
      rintro e w1 ⟨rfl, hb⟩
      replace hB := bstep hB hb
      have R3 := Lib.hid (keep hb R3.out)
      have R4 := Lib.hid (keep hb R4.out)
      clear hb
      obtain ⟨R3c0, R3c1, R3c2, R3c3, R3c4, R3c5, R3c6, R3f0, R3f1, R3f2, R3f3, R3f4, R3f5, R3f6⟩ := row7 R3.out
      go_wp2_with fail
      clear R3c0 R3c1 R3c2 R3c3 R3c4 R3c5 R3c6 R3f0 R3f1 R3f2 R3f3 R3f4 R3f5 R3f6
      refine (HS.out _ (HE.out.below hB)).mono ?_
      rintro e w2 ⟨rfl, hb⟩
      replace hB := bstep hB hb
      have R3 := Lib.hid (keep hb R3.out)
      have R4 := Lib.hid (keep hb R4.out)
      clear hb
      obtain ⟨R4c0, R4c1, R4c2, R4c3, R4f0, R4f1, R4f2, R4f3⟩ := row4 R4.out
      go_wp2_with fail
      clear R4c0 R4c1 R4c2 R4c3 R4f0 R4f1 R4f2 R4f3
      refine (HP.out _ (HE.out.below hB)).mono ?_
      rintro e w3 ⟨rfl, hb⟩
      replace hB := bstep hB hb
      have R3 := Lib.hid (keep hb R3.out)
      have R4 := Lib.hid (keep hb R4.out)
      clear hb
      go_wp2_with fail
      go_ret
      exact ⟨rfl, hB⟩
    · obtain rfl : b3 = false := by simpa using hr
      clear hr
      go_enter Tryz.func3, Tryz.ntmps3
      go_upto_region 1 with fail
      generalize hW : (World.alloc w _).alloc _ = W
      obtain ⟨hB, hsz, R3, R4⟩ := A2 hW
      have R3 := Lib.hid R3
      have R4 := Lib.hid R4
      clear hW hsz
      go_wp2_with fail
      refine (H0.out _ (HE.out.below hB)).mono ?_
      rintro e w1 ⟨rfl, hb⟩
      replace hB := bstep hB hb
      have R3 := Lib.hid (keep hb R3.out)
      have R4 := Lib.hid (keep hb R4.out)
      clear hb
      obtain ⟨R3c0, R3c1, R3c2, R3c3, R3c4, R3c5, R3c6, R3f0, R3f1, R3f2, R3f3, R3f4, R3f5, R3f6⟩ := row7 R3.out
      go_wp2_with fail
      clear R3c0 R3c1 R3c2 R3c3 R3c4 R3c5 R3c6 R3f0 R3f1 R3f2 R3f3 R3f4 R3f5 R3f6
      refine (HS.out _ (HE.out.below hB)).mono ?_
      rintro e w2 ⟨rfl, hb⟩
      replace hB := bstep hB hb
      have R3 := Lib.hid (keep hb R3.out)
      have R4 := Lib.hid (keep hb R4.out)
      clear hb
      obtain ⟨R4c0, R4c1, R4c2, R4c3, R4f0, R4f1, R4f2, R4f3⟩ := row4 R4.out
      go_wp2_with fail
      clear R4c0 R4c1 R4c2 R4c3 R4f0 R4f1 R4f2 R4f3
      refine (HP.out _ (HE.out.below hB)).mono ?_
      rintro e w3 ⟨rfl, hb⟩
      replace hB := bstep hB hb
      have R3 := Lib.hid (keep hb R3.out)
      have R4 := Lib.hid (keep hb R4.out)
      clear hb
      go_wp2_with fail
      refine (HY.out _ (HE.out.below hB)).mono ?_
      rintro e w4 ⟨rfl, hb⟩
      replace hB := bstep hB hb
      have R3 := Lib.hid (keep hb R3.out)
      have R4 := Lib.hid (keep hb R4.out)
      clear hb
      go_wp2_with fail
      go_ret
      exact ⟨rfl, hB⟩


set_option maxRecDepth 100000 in
set_option maxHeartbeats 4000000 in
theorem la31_ris_stop (oi of ot ok : Int) (r0 r1 r2 : ByteArray) (h t lo hi by_ : ByteArray) (a c sg : Int) (d_ : Rat) (okd : Bool) (w : World) (hE : Env w) (hr : ((c != 0) = true ∧ a = 0) ∨ (c = 0 ∧ okd = false) ∨ (c = 0 ∧ okd = true ∧ sg < 0))
    (hs : ∀ w, Env w → Calls Tryz.prog 11 #[.agg #[.string r0, .string r1, .string r2]] w fun e w' => e = .returned (.bool true) ∧ Below w.heap.size w w')
    (hp : ∀ w, Env w → Calls Tryz.prog 12 #[.agg #[.string h, .string t, .string lo, .string hi]] w fun e w' => e = .returned (.bool true) ∧ Below w.heap.size w w')
    (hy : ∀ w, Env w → Calls Tryz.prog 13 #[.string by_] w fun e w' => e = .returned (.bool true) ∧ Below w.heap.size w w')
    (hw : ∀ w, Env w → Calls Tryz.prog 14 #[.agg #[.int .i64 oi, .int .i64 of, .int .i64 ot, .int .i64 ok, .string r0, .string r1, .string r2], .agg #[.string h, .string t, .string lo, .string hi]] w fun e w' => e = .returned (.tuple #[.int .i64 a, .int .i64 c]) ∧ Below w.heap.size w w')
    (hd : ∀ w, Calls Tryz.prog 15 #[.string by_] w fun e w' => ∃ p d : Sl, e = .returned (.tuple #[qW (sgB d_.num) p d, .bool okd]) ∧ RQ w' p d d_ ∧ Below w.heap.size w w')
    (hg : ∀ w p d, RQ w p d d_ → Calls Tryz.prog 16 #[qW (sgB d_.num) p d] w fun e w' => e = .returned (.int .i64 sg) ∧ Below w.heap.size w w') :
    Calls Tryz.prog 3 #[.agg #[.int .i64 oi, .int .i64 of, .int .i64 ot, .int .i64 ok, .string r0, .string r1, .string r2], .agg #[.string h, .string t, .string lo, .string hi], .string by_] w fun e w' => e = .returned (.bool true) ∧ Below w.heap.size w w' := by
  have H0 := Lib.hid (fun w hE => la31_awake w hE)
  have HS := Lib.hid hs
  have HP := Lib.hid hp
  have HY := Lib.hid hy
  have HW := Lib.hid hw
  have HD := Lib.hid hd
  have HG := Lib.hid hg
  have HE := Lib.hid hE
  clear hE hs hp hy hw hd hg
  have HR := Lib.hid hr
  clear hr
  rcases HR.out with ⟨hc1, rfl⟩ | ⟨rfl, rfl⟩ | ⟨rfl, rfl, hsg⟩
  · clear HR
    have hc2 : (c == 0) = false := by simpa using hc1
    go_enter Tryz.func3, Tryz.ntmps3
    go_upto_region 1 with fail
    generalize hW : (World.alloc w _).alloc _ = W
    obtain ⟨hB, hsz, R3, R4⟩ := A2 hW
    have R3 := Lib.hid R3
    have R4 := Lib.hid R4
    clear hW hsz
    go_wp2_with fail
    refine (H0.out _ (HE.out.below hB)).mono ?_
    rintro e w1 ⟨rfl, hb⟩
    replace hB := bstep hB hb
    have R3 := Lib.hid (keep hb R3.out)
    have R4 := Lib.hid (keep hb R4.out)
    clear hb
    obtain ⟨R3c0, R3c1, R3c2, R3c3, R3c4, R3c5, R3c6, R3f0, R3f1, R3f2, R3f3, R3f4, R3f5, R3f6⟩ := row7 R3.out
    go_wp2_with fail
    clear R3c0 R3c1 R3c2 R3c3 R3c4 R3c5 R3c6 R3f0 R3f1 R3f2 R3f3 R3f4 R3f5 R3f6
    refine (HS.out _ (HE.out.below hB)).mono ?_
    rintro e w2 ⟨rfl, hb⟩
    replace hB := bstep hB hb
    have R3 := Lib.hid (keep hb R3.out)
    have R4 := Lib.hid (keep hb R4.out)
    clear hb
    obtain ⟨R4c0, R4c1, R4c2, R4c3, R4f0, R4f1, R4f2, R4f3⟩ := row4 R4.out
    go_wp2_with fail
    clear R4c0 R4c1 R4c2 R4c3 R4f0 R4f1 R4f2 R4f3
    refine (HP.out _ (HE.out.below hB)).mono ?_
    rintro e w3 ⟨rfl, hb⟩
    replace hB := bstep hB hb
    have R3 := Lib.hid (keep hb R3.out)
    have R4 := Lib.hid (keep hb R4.out)
    clear hb
    go_wp2_with fail
    refine (HY.out _ (HE.out.below hB)).mono ?_
    rintro e w4 ⟨rfl, hb⟩
    replace hB := bstep hB hb
    have R3 := Lib.hid (keep hb R3.out)
    have R4 := Lib.hid (keep hb R4.out)
    clear hb
    obtain ⟨R3c0, R3c1, R3c2, R3c3, R3c4, R3c5, R3c6, R3f0, R3f1, R3f2, R3f3, R3f4, R3f5, R3f6⟩ := row7 R3.out
    obtain ⟨R4c0, R4c1, R4c2, R4c3, R4f0, R4f1, R4f2, R4f3⟩ := row4 R4.out
    go_wp2_with fail
    clear R3c0 R3c1 R3c2 R3c3 R3c4 R3c5 R3c6 R3f0 R3f1 R3f2 R3f3 R3f4 R3f5 R3f6
    clear R4c0 R4c1 R4c2 R4c3 R4f0 R4f1 R4f2 R4f3
    refine (HW.out _ (HE.out.below hB)).mono ?_
    rintro e w5 ⟨rfl, hb⟩
    replace hB := bstep hB hb
    have R3 := Lib.hid (keep hb R3.out)
    have R4 := Lib.hid (keep hb R4.out)
    clear hb
    go_wp2_with fail
    refine (HD.out _).mono ?_
    rintro e w6 ⟨pd, dd, rfl, kd, hb⟩
    replace hB := bstep hB hb
    have R3 := Lib.hid (keep hb R3.out)
    have R4 := Lib.hid (keep hb R4.out)
    have KD := Lib.hid kd
    clear kd
    clear hb
    go_upto_region 7 with fail
    generalize hW : World.alloc _ _ = V
    obtain ⟨hb, hsz, R9⟩ := A1 hW
    replace hB := bstep hB hb
    have R3 := Lib.hid (keep hb R3.out)
    have R4 := Lib.hid (keep hb R4.out)
    have KD := Lib.hid (KD.out.below hb)
    clear hb
    have R9 := Lib.hid R9
    clear hW hsz
    go_wp2_with fail
    go_ret
    exact ⟨rfl, hB⟩
  · clear HR
    go_enter Tryz.func3, Tryz.ntmps3
    go_upto_region 1 with fail
    generalize hW : (World.alloc w _).alloc _ = W
    obtain ⟨hB, hsz, R3, R4⟩ := A2 hW
    have R3 := Lib.hid R3
    have R4 := Lib.hid R4
    clear hW hsz
    go_wp2_with fail
    refine (H0.out _ (HE.out.below hB)).mono ?_
    rintro e w1 ⟨rfl, hb⟩
    replace hB := bstep hB hb
    have R3 := Lib.hid (keep hb R3.out)
    have R4 := Lib.hid (keep hb R4.out)
    clear hb
    obtain ⟨R3c0, R3c1, R3c2, R3c3, R3c4, R3c5, R3c6, R3f0, R3f1, R3f2, R3f3, R3f4, R3f5, R3f6⟩ := row7 R3.out
    go_wp2_with fail
    clear R3c0 R3c1 R3c2 R3c3 R3c4 R3c5 R3c6 R3f0 R3f1 R3f2 R3f3 R3f4 R3f5 R3f6
    refine (HS.out _ (HE.out.below hB)).mono ?_
    rintro e w2 ⟨rfl, hb⟩
    replace hB := bstep hB hb
    have R3 := Lib.hid (keep hb R3.out)
    have R4 := Lib.hid (keep hb R4.out)
    clear hb
    obtain ⟨R4c0, R4c1, R4c2, R4c3, R4f0, R4f1, R4f2, R4f3⟩ := row4 R4.out
    go_wp2_with fail
    clear R4c0 R4c1 R4c2 R4c3 R4f0 R4f1 R4f2 R4f3
    refine (HP.out _ (HE.out.below hB)).mono ?_
    rintro e w3 ⟨rfl, hb⟩
    replace hB := bstep hB hb
    have R3 := Lib.hid (keep hb R3.out)
    have R4 := Lib.hid (keep hb R4.out)
    clear hb
    go_wp2_with fail
    refine (HY.out _ (HE.out.below hB)).mono ?_
    rintro e w4 ⟨rfl, hb⟩
    replace hB := bstep hB hb
    have R3 := Lib.hid (keep hb R3.out)
    have R4 := Lib.hid (keep hb R4.out)
    clear hb
    obtain ⟨R3c0, R3c1, R3c2, R3c3, R3c4, R3c5, R3c6, R3f0, R3f1, R3f2, R3f3, R3f4, R3f5, R3f6⟩ := row7 R3.out
    obtain ⟨R4c0, R4c1, R4c2, R4c3, R4f0, R4f1, R4f2, R4f3⟩ := row4 R4.out
    go_wp2_with fail
    clear R3c0 R3c1 R3c2 R3c3 R3c4 R3c5 R3c6 R3f0 R3f1 R3f2 R3f3 R3f4 R3f5 R3f6
    clear R4c0 R4c1 R4c2 R4c3 R4f0 R4f1 R4f2 R4f3
    refine (HW.out _ (HE.out.below hB)).mono ?_
    rintro e w5 ⟨rfl, hb⟩
    replace hB := bstep hB hb
    have R3 := Lib.hid (keep hb R3.out)
    have R4 := Lib.hid (keep hb R4.out)
    clear hb
    go_wp2_with fail
    refine (HD.out _).mono ?_
    rintro e w6 ⟨pd, dd, rfl, kd, hb⟩
    replace hB := bstep hB hb
    have R3 := Lib.hid (keep hb R3.out)
    have R4 := Lib.hid (keep hb R4.out)
    have KD := Lib.hid kd
    clear kd
    clear hb
    go_upto_region 7 with fail
    generalize hW : World.alloc _ _ = V
    obtain ⟨hb, hsz, R9⟩ := A1 hW
    replace hB := bstep hB hb
    have R3 := Lib.hid (keep hb R3.out)
    have R4 := Lib.hid (keep hb R4.out)
    have KD := Lib.hid (KD.out.below hb)
    clear hb
    have R9 := Lib.hid R9
    clear hW hsz
    go_wp2_with fail
    go_ret
    exact ⟨rfl, hB⟩
  · clear HR
    go_enter Tryz.func3, Tryz.ntmps3
    go_upto_region 1 with fail
    generalize hW : (World.alloc w _).alloc _ = W
    obtain ⟨hB, hsz, R3, R4⟩ := A2 hW
    have R3 := Lib.hid R3
    have R4 := Lib.hid R4
    clear hW hsz
    go_wp2_with fail
    refine (H0.out _ (HE.out.below hB)).mono ?_
    rintro e w1 ⟨rfl, hb⟩
    replace hB := bstep hB hb
    have R3 := Lib.hid (keep hb R3.out)
    have R4 := Lib.hid (keep hb R4.out)
    clear hb
    obtain ⟨R3c0, R3c1, R3c2, R3c3, R3c4, R3c5, R3c6, R3f0, R3f1, R3f2, R3f3, R3f4, R3f5, R3f6⟩ := row7 R3.out
    go_wp2_with fail
    clear R3c0 R3c1 R3c2 R3c3 R3c4 R3c5 R3c6 R3f0 R3f1 R3f2 R3f3 R3f4 R3f5 R3f6
    refine (HS.out _ (HE.out.below hB)).mono ?_
    rintro e w2 ⟨rfl, hb⟩
    replace hB := bstep hB hb
    have R3 := Lib.hid (keep hb R3.out)
    have R4 := Lib.hid (keep hb R4.out)
    clear hb
    obtain ⟨R4c0, R4c1, R4c2, R4c3, R4f0, R4f1, R4f2, R4f3⟩ := row4 R4.out
    go_wp2_with fail
    clear R4c0 R4c1 R4c2 R4c3 R4f0 R4f1 R4f2 R4f3
    refine (HP.out _ (HE.out.below hB)).mono ?_
    rintro e w3 ⟨rfl, hb⟩
    replace hB := bstep hB hb
    have R3 := Lib.hid (keep hb R3.out)
    have R4 := Lib.hid (keep hb R4.out)
    clear hb
    go_wp2_with fail
    refine (HY.out _ (HE.out.below hB)).mono ?_
    rintro e w4 ⟨rfl, hb⟩
    replace hB := bstep hB hb
    have R3 := Lib.hid (keep hb R3.out)
    have R4 := Lib.hid (keep hb R4.out)
    clear hb
    obtain ⟨R3c0, R3c1, R3c2, R3c3, R3c4, R3c5, R3c6, R3f0, R3f1, R3f2, R3f3, R3f4, R3f5, R3f6⟩ := row7 R3.out
    obtain ⟨R4c0, R4c1, R4c2, R4c3, R4f0, R4f1, R4f2, R4f3⟩ := row4 R4.out
    go_wp2_with fail
    clear R3c0 R3c1 R3c2 R3c3 R3c4 R3c5 R3c6 R3f0 R3f1 R3f2 R3f3 R3f4 R3f5 R3f6
    clear R4c0 R4c1 R4c2 R4c3 R4f0 R4f1 R4f2 R4f3
    refine (HW.out _ (HE.out.below hB)).mono ?_
    rintro e w5 ⟨rfl, hb⟩
    replace hB := bstep hB hb
    have R3 := Lib.hid (keep hb R3.out)
    have R4 := Lib.hid (keep hb R4.out)
    clear hb
    go_wp2_with fail
    refine (HD.out _).mono ?_
    rintro e w6 ⟨pd, dd, rfl, kd, hb⟩
    replace hB := bstep hB hb
    have R3 := Lib.hid (keep hb R3.out)
    have R4 := Lib.hid (keep hb R4.out)
    have KD := Lib.hid kd
    clear kd
    clear hb
    go_upto_region 7 with fail
    generalize hW : World.alloc _ _ = V
    obtain ⟨hb, hsz, R9⟩ := A1 hW
    replace hB := bstep hB hb
    have R3 := Lib.hid (keep hb R3.out)
    have R4 := Lib.hid (keep hb R4.out)
    have KD := Lib.hid (KD.out.below hb)
    clear hb
    have R9 := Lib.hid R9
    clear hW hsz
    obtain ⟨R9c0, R9c1, R9c2, R9f0, R9f1, R9f2⟩ := row3 R9.out
    go_wp2_with fail
    clear R9c0 R9c1 R9c2 R9f0 R9f1 R9f2
    refine (HG.out _ pd dd KD.out).mono ?_
    rintro e w7 ⟨rfl, hb⟩
    replace hB := bstep hB hb
    have R3 := Lib.hid (keep hb R3.out)
    have R4 := Lib.hid (keep hb R4.out)
    have R9 := Lib.hid (keep hb R9.out)
    have KD := Lib.hid (KD.out.below hb)
    clear hb
    go_wp2_with fail
    go_ret
    exact ⟨rfl, hB⟩


set_option maxRecDepth 100000 in
set_option maxHeartbeats 32000000 in
theorem la31_ris_go (oi of ot ok : Int) (r0 r1 r2 : ByteArray) (h t lo hi by_ z : ByteArray) (a sg up dn hf ot_ : Int) (l1 l2 : Bool) (d_ lo_ hi_ q_ : Rat) (w : World) (hE : Env w) (hsg : ¬ sg < 0)
    (zd : Sz 1000 d_) (zlo : Sz 1000 lo_) (zhi : Sz 1000 hi_)
    (hr : (a = 2 ∧ l1 = false ∧ l2 = false ∧ 2 ≤ up ∧ dn ≤ 2 ∧ hf = 2 ∧ ot_ = 2) ∨ (a = 1 ∧ l1 = true ∧ l2 = false ∧ 1 ≤ up ∧ dn ≤ 1) ∨ (a = 0 ∧ l1 = true ∧ l2 = true ∧ 0 ≤ up ∧ dn ≤ 0 ∧ hf = 0 ∧ ot_ = 0))
    (hs : ∀ w, Env w → Calls Tryz.prog 11 #[.agg #[.string r0, .string r1, .string r2]] w fun e w' => e = .returned (.bool true) ∧ Below w.heap.size w w')
    (hp : ∀ w, Env w → Calls Tryz.prog 12 #[.agg #[.string h, .string t, .string lo, .string hi]] w fun e w' => e = .returned (.bool true) ∧ Below w.heap.size w w')
    (hy : ∀ w, Env w → Calls Tryz.prog 13 #[.string by_] w fun e w' => e = .returned (.bool true) ∧ Below w.heap.size w w')
    (hw : ∀ w, Env w → Calls Tryz.prog 14 #[.agg #[.int .i64 oi, .int .i64 of, .int .i64 ot, .int .i64 ok, .string r0, .string r1, .string r2], .agg #[.string h, .string t, .string lo, .string hi]] w fun e w' => e = .returned (.tuple #[.int .i64 a, .int .i64 0]) ∧ Below w.heap.size w w')
    (hd : ∀ w, Calls Tryz.prog 15 #[.string by_] w fun e w' => ∃ p d : Sl, e = .returned (.tuple #[qW (sgB d_.num) p d, .bool true]) ∧ RQ w' p d d_ ∧ Below w.heap.size w w')
    (hg : ∀ w p d, RQ w p d d_ → Calls Tryz.prog 16 #[qW (sgB d_.num) p d] w fun e w' => e = .returned (.int .i64 sg) ∧ Below w.heap.size w w')
    (hbo : ∀ w, Calls Tryz.prog 17 #[.string lo, .string hi] w fun e w' => ∃ p d s t : Sl, e = .returned (.tuple #[qW (sgB lo_.num) p d, qW (sgB hi_.num) s t, .int .i64 0]) ∧ RQ w' p d lo_ ∧ RQ w' s t hi_ ∧ Below w.heap.size w w')
    (hhe : ∀ w, Env w → Calls Tryz.prog 18 #[.agg #[.int .i64 oi, .int .i64 of, .int .i64 ot, .int .i64 ok, .string r0, .string r1, .string r2], .agg #[.string h, .string t]] w fun e w' => e = .returned (.tuple #[.string z, .int .i64 0]) ∧ Below w.heap.size w w')
    (hz : ∀ w, Calls Tryz.prog 15 #[.string z] w fun e w' => ∃ p d : Sl, e = .returned (.tuple #[qW (sgB q_.num) p d, .bool true]) ∧ RQ w' p d q_ ∧ Below w.heap.size w w')
    (hl1 : ∀ w a b c d, RQ w a b lo_ → RQ w c d q_ → Calls Tryz.prog 19 #[qW (sgB lo_.num) a b, qW (sgB q_.num) c d] w fun e w' => e = .returned (.bool l1) ∧ Below w.heap.size w w')
    (hl2 : ∀ w a b c d, RQ w a b hi_ → RQ w c d q_ → Calls Tryz.prog 19 #[qW (sgB hi_.num) a b, qW (sgB q_.num) c d] w fun e w' => e = .returned (.bool l2) ∧ Below w.heap.size w w')
    (hm1 : ∀ w, Env w → Calls Tryz.prog 14 #[.agg #[.int .i64 oi, .int .i64 of, .int .i64 ot, .int .i64 ok, .string r0, .string r1, .string r2], .agg #[.string h, .string t, .string (rs (lo_ + d_)), .string (rs (hi_ + d_))]] w fun e w' => e = .returned (.tuple #[.int .i64 up, .int .i64 0]) ∧ Below w.heap.size w w')
    (hm2 : ∀ w, Env w → Calls Tryz.prog 14 #[.agg #[.int .i64 oi, .int .i64 of, .int .i64 ot, .int .i64 ok, .string r0, .string r1, .string r2], .agg #[.string h, .string t, .string (rs (lo_ - d_)), .string (rs (hi_ - d_))]] w fun e w' => e = .returned (.tuple #[.int .i64 dn, .int .i64 0]) ∧ Below w.heap.size w w')
    (hm3 : ∀ w, Env w → Calls Tryz.prog 14 #[.agg #[.int .i64 oi, .int .i64 of, .int .i64 ot, .int .i64 ok, .string r0, .string r1, .string r2], .agg #[.string h, .string t, .string (rs lo_), .string (rs ((lo_ + hi_) * mkRat 1 2))]] w fun e w' => e = .returned (.tuple #[.int .i64 hf, .int .i64 0]) ∧ Below w.heap.size w w')
    (hm4 : ∀ w, Env w → Calls Tryz.prog 14 #[.agg #[.int .i64 oi, .int .i64 of, .int .i64 ot, .int .i64 ok, .string r0, .string r1, .string r2], .agg #[.string h, .string t, .string (rs ((lo_ + hi_) * mkRat 1 2)), .string (rs hi_)]] w fun e w' => e = .returned (.tuple #[.int .i64 ot_, .int .i64 0]) ∧ Below w.heap.size w w') :
    Calls Tryz.prog 3 #[.agg #[.int .i64 oi, .int .i64 of, .int .i64 ot, .int .i64 ok, .string r0, .string r1, .string r2], .agg #[.string h, .string t, .string lo, .string hi], .string by_] w fun e w' => e = .returned (.bool true) ∧ Below w.heap.size w w' := by
  have H0 := Lib.hid (fun w hE => la31_awake w hE)
  have HS := Lib.hid hs
  have HP := Lib.hid hp
  have HY := Lib.hid hy
  have HW := Lib.hid hw
  have HD := Lib.hid hd
  have HG := Lib.hid hg
  have HBO := Lib.hid hbo
  have HHE := Lib.hid hhe
  have HZ := Lib.hid hz
  have HL1 := Lib.hid hl1
  have HL2 := Lib.hid hl2
  have HM1 := Lib.hid hm1
  have HM2 := Lib.hid hm2
  have HM3 := Lib.hid hm3
  have HM4 := Lib.hid hm4
  have HE := Lib.hid hE
  clear hE hs hp hy hw hd hg hbo hhe hz hl1 hl2 hm1 hm2 hm3 hm4
  have HR := Lib.hid hr
  clear hr
  go_enter Tryz.func3, Tryz.ntmps3
  go_upto_region 1 with fail
  generalize hW : (World.alloc w _).alloc _ = W
  obtain ⟨hB, hsz, R3, R4⟩ := A2 hW
  have R3 := Lib.hid R3
  have R4 := Lib.hid R4
  clear hW hsz
  go_wp2_with fail
  refine (H0.out _ (HE.out.below hB)).mono ?_
  rintro e w1 ⟨rfl, hb⟩
  replace hB := bstep hB hb
  have R3 := Lib.hid (keep hb R3.out)
  have R4 := Lib.hid (keep hb R4.out)
  clear hb
  obtain ⟨R3c0, R3c1, R3c2, R3c3, R3c4, R3c5, R3c6, R3f0, R3f1, R3f2, R3f3, R3f4, R3f5, R3f6⟩ := row7 R3.out
  go_wp2_with fail
  clear R3c0 R3c1 R3c2 R3c3 R3c4 R3c5 R3c6 R3f0 R3f1 R3f2 R3f3 R3f4 R3f5 R3f6
  refine (HS.out _ (HE.out.below hB)).mono ?_
  rintro e w2 ⟨rfl, hb⟩
  replace hB := bstep hB hb
  have R3 := Lib.hid (keep hb R3.out)
  have R4 := Lib.hid (keep hb R4.out)
  clear hb
  obtain ⟨R4c0, R4c1, R4c2, R4c3, R4f0, R4f1, R4f2, R4f3⟩ := row4 R4.out
  go_wp2_with fail
  clear R4c0 R4c1 R4c2 R4c3 R4f0 R4f1 R4f2 R4f3
  refine (HP.out _ (HE.out.below hB)).mono ?_
  rintro e w3 ⟨rfl, hb⟩
  replace hB := bstep hB hb
  have R3 := Lib.hid (keep hb R3.out)
  have R4 := Lib.hid (keep hb R4.out)
  clear hb
  go_wp2_with fail
  refine (HY.out _ (HE.out.below hB)).mono ?_
  rintro e w4 ⟨rfl, hb⟩
  replace hB := bstep hB hb
  have R3 := Lib.hid (keep hb R3.out)
  have R4 := Lib.hid (keep hb R4.out)
  clear hb
  obtain ⟨R3c0, R3c1, R3c2, R3c3, R3c4, R3c5, R3c6, R3f0, R3f1, R3f2, R3f3, R3f4, R3f5, R3f6⟩ := row7 R3.out
  obtain ⟨R4c0, R4c1, R4c2, R4c3, R4f0, R4f1, R4f2, R4f3⟩ := row4 R4.out
  go_wp2_with fail
  clear R3c0 R3c1 R3c2 R3c3 R3c4 R3c5 R3c6 R3f0 R3f1 R3f2 R3f3 R3f4 R3f5 R3f6
  clear R4c0 R4c1 R4c2 R4c3 R4f0 R4f1 R4f2 R4f3
  refine (HW.out _ (HE.out.below hB)).mono ?_
  rintro e w5 ⟨rfl, hb⟩
  replace hB := bstep hB hb
  have R3 := Lib.hid (keep hb R3.out)
  have R4 := Lib.hid (keep hb R4.out)
  clear hb
  go_wp2_with fail
  refine (HD.out _).mono ?_
  rintro e w6 ⟨pd, dd, rfl, kd, hb⟩
  replace hB := bstep hB hb
  have R3 := Lib.hid (keep hb R3.out)
  have R4 := Lib.hid (keep hb R4.out)
  have KD := Lib.hid kd
  clear kd
  clear hb
  go_upto_region 7 with fail
  generalize hW : World.alloc _ _ = V
  obtain ⟨hb, hsz, R9⟩ := A1 hW
  replace hB := bstep hB hb
  have R3 := Lib.hid (keep hb R3.out)
  have R4 := Lib.hid (keep hb R4.out)
  have KD := Lib.hid (KD.out.below hb)
  clear hb
  have R9 := Lib.hid R9
  clear hW hsz
  obtain ⟨R9c0, R9c1, R9c2, R9f0, R9f1, R9f2⟩ := row3 R9.out
  go_wp2_with fail
  clear R9c0 R9c1 R9c2 R9f0 R9f1 R9f2
  refine (HG.out _ pd dd KD.out).mono ?_
  rintro e w7 ⟨rfl, hb⟩
  replace hB := bstep hB hb
  have R3 := Lib.hid (keep hb R3.out)
  have R4 := Lib.hid (keep hb R4.out)
  have R9 := Lib.hid (keep hb R9.out)
  have KD := Lib.hid (KD.out.below hb)
  clear hb
  obtain ⟨R4c0, R4c1, R4c2, R4c3, R4f0, R4f1, R4f2, R4f3⟩ := row4 R4.out
  go_wp2_with fail
  clear R4c0 R4c1 R4c2 R4c3 R4f0 R4f1 R4f2 R4f3
  refine (HBO.out _).mono ?_
  rintro e w8 ⟨pl, dl, ph, dh, rfl, kl, kh, hb⟩
  replace hB := bstep hB hb
  have R3 := Lib.hid (keep hb R3.out)
  have R4 := Lib.hid (keep hb R4.out)
  have R9 := Lib.hid (keep hb R9.out)
  have KD := Lib.hid (KD.out.below hb)
  have KL := Lib.hid kl
  have KH := Lib.hid kh
  clear hb kl kh
  go_upto_region 10 with fail
  generalize hW : (World.alloc _ _).alloc _ = V2
  obtain ⟨hb, hsz, R11, R12⟩ := A2 hW
  replace hB := bstep hB hb
  have R3 := Lib.hid (keep hb R3.out)
  have R4 := Lib.hid (keep hb R4.out)
  have R9 := Lib.hid (keep hb R9.out)
  have KD := Lib.hid (KD.out.below hb)
  have KL := Lib.hid (KL.out.below hb)
  have KH := Lib.hid (KH.out.below hb)
  clear hb
  have R11 := Lib.hid R11
  have R12 := Lib.hid R12
  clear hW hsz
  obtain ⟨R3c0, R3c1, R3c2, R3c3, R3c4, R3c5, R3c6, R3f0, R3f1, R3f2, R3f3, R3f4, R3f5, R3f6⟩ := row7 R3.out
  obtain ⟨R4c0, R4c1, R4c2, R4c3, R4f0, R4f1, R4f2, R4f3⟩ := row4 R4.out
  go_wp2_with fail
  clear R3c0 R3c1 R3c2 R3c3 R3c4 R3c5 R3c6 R3f0 R3f1 R3f2 R3f3 R3f4 R3f5 R3f6
  clear R4c0 R4c1 R4c2 R4c3 R4f0 R4f1 R4f2 R4f3
  refine (HHE.out _ (HE.out.below hB)).mono ?_
  rintro e w9 ⟨rfl, hb⟩
  replace hB := bstep hB hb
  have R3 := Lib.hid (keep hb R3.out)
  have R4 := Lib.hid (keep hb R4.out)
  have R9 := Lib.hid (keep hb R9.out)
  have R11 := Lib.hid (keep hb R11.out)
  have R12 := Lib.hid (keep hb R12.out)
  have KD := Lib.hid (KD.out.below hb)
  have KL := Lib.hid (KL.out.below hb)
  have KH := Lib.hid (KH.out.below hb)
  clear hb
  go_wp2_with fail
  refine (HZ.out _).mono ?_
  rintro e w10 ⟨pq, dq, rfl, kq, hb⟩
  replace hB := bstep hB hb
  have R3 := Lib.hid (keep hb R3.out)
  have R4 := Lib.hid (keep hb R4.out)
  have R9 := Lib.hid (keep hb R9.out)
  have R11 := Lib.hid (keep hb R11.out)
  have R12 := Lib.hid (keep hb R12.out)
  have KD := Lib.hid (KD.out.below hb)
  have KL := Lib.hid (KL.out.below hb)
  have KH := Lib.hid (KH.out.below hb)
  have KQ := Lib.hid kq
  clear kq
  clear hb
  go_upto_region 12 with fail
  generalize hW : World.alloc _ _ = V3
  obtain ⟨hb, hsz, R16⟩ := A1 hW
  replace hB := bstep hB hb
  have R3 := Lib.hid (keep hb R3.out)
  have R4 := Lib.hid (keep hb R4.out)
  have R9 := Lib.hid (keep hb R9.out)
  have R11 := Lib.hid (keep hb R11.out)
  have R12 := Lib.hid (keep hb R12.out)
  have KD := Lib.hid (KD.out.below hb)
  have KL := Lib.hid (KL.out.below hb)
  have KH := Lib.hid (KH.out.below hb)
  have KQ := Lib.hid (KQ.out.below hb)
  clear hb
  have R16 := Lib.hid R16
  clear hW hsz
  rcases HR.out with ⟨rfl, rfl, rfl, u1, u2, rfl, rfl⟩ | ⟨rfl, rfl, rfl, u1, u2⟩ | ⟨rfl, rfl, rfl, u1, u2, rfl, rfl⟩
  all_goals
    clear HR H0 HS HP HY HW HD HG HBO HHE HZ
    obtain ⟨R11c0, R11c1, R11c2, R11f0, R11f1, R11f2⟩ := row3 R11.out
    obtain ⟨R16c0, R16c1, R16c2, R16f0, R16f1, R16f2⟩ := row3 R16.out
    go_wp2_with fail
    clear R11c0 R11c1 R11c2 R11f0 R11f1 R11f2
    clear R16c0 R16c1 R16c2 R16f0 R16f1 R16f2
    refine (HL1.out _ _ _ _ _ KL.out KQ.out).mono ?_
    rintro e w11 ⟨rfl, hb⟩
    replace hB := bstep hB hb
    have R3 := Lib.hid (keep hb R3.out)
    have R4 := Lib.hid (keep hb R4.out)
    have R9 := Lib.hid (keep hb R9.out)
    have R11 := Lib.hid (keep hb R11.out)
    have R12 := Lib.hid (keep hb R12.out)
    have R16 := Lib.hid (keep hb R16.out)
    have KD := Lib.hid (KD.out.below hb)
    have KL := Lib.hid (KL.out.below hb)
    have KH := Lib.hid (KH.out.below hb)
    have KQ := Lib.hid (KQ.out.below hb)
    clear hb
    obtain ⟨R12c0, R12c1, R12c2, R12f0, R12f1, R12f2⟩ := row3 R12.out
    obtain ⟨R16c0, R16c1, R16c2, R16f0, R16f1, R16f2⟩ := row3 R16.out
    go_wp2_with fail
    clear R12c0 R12c1 R12c2 R12f0 R12f1 R12f2
    clear R16c0 R16c1 R16c2 R16f0 R16f1 R16f2
    refine (HL2.out _ _ _ _ _ KH.out KQ.out).mono ?_
    rintro e w12 ⟨rfl, hb⟩
    replace hB := bstep hB hb
    have R3 := Lib.hid (keep hb R3.out)
    have R4 := Lib.hid (keep hb R4.out)
    have R9 := Lib.hid (keep hb R9.out)
    have R11 := Lib.hid (keep hb R11.out)
    have R12 := Lib.hid (keep hb R12.out)
    have KD := Lib.hid (KD.out.below hb)
    have KL := Lib.hid (KL.out.below hb)
    have KH := Lib.hid (KH.out.below hb)
    clear hb
    clear HL1 HL2 KQ R16
    go_upto_region 15 with fail
    have ZM : Hid (Sz 1000000 ((lo_ + hi_) * mkRat 1 2)) := Lib.hid ((sz_mul (sz_add zlo zhi) (show Sz 2 (mkRat 1 2) by constructor <;> decide +kernel)).mono (by decide))
    have Q1 := Lib.hid (fun W (hb : Below w12.heap.size w12 W) a b c d (k1 : RQ W a b lo_) (k2 : RQ W c d d_) => r3_Add lo_ d_ a b c d W k1 k2 (zlo.mono (by decide)) (zd.mono (by decide)))
    have Q2 := Lib.hid (fun W (hb : Below w12.heap.size w12 W) a b c d (k1 : RQ W a b hi_) (k2 : RQ W c d d_) => r3_Add hi_ d_ a b c d W k1 k2 (zhi.mono (by decide)) (zd.mono (by decide)))
    have M3 := Lib.hid (fun W (hE : Env W) a b c d h3 h4 (k1 : RQ W a b (lo_ + d_)) (k2 : RQ W c d (hi_ + d_)) => op_moved w.heap.size (w.heap.size + 1) oi of ot ok r0 r1 r2 h t lo hi (lo_ + d_) (hi_ + d_) up a b c d W hE (by first | exact zlo.mono (by decide) | exact zhi.mono (by decide) | exact (sz_add zlo zd).mono (by decide) | exact (sz_sub zlo zd).mono (by decide) | exact ZM.out) (by first | exact zlo.mono (by decide) | exact zhi.mono (by decide) | exact (sz_add zhi zd).mono (by decide) | exact (sz_sub zhi zd).mono (by decide) | exact ZM.out) h3 h4 k1 k2 HM1.out)
    have Q3 := Lib.hid (fun W (hb : Below w12.heap.size w12 W) a b c d (k1 : RQ W a b (lo_ + d_)) (k2 : RQ W c d (hi_ + d_)) => M3.out W (HE.out.below (bstep hB hb)) a b c d (keep hb R3.out) (keep hb R4.out) k1 k2)
    clear M3
    have LR9 := fun (w' : World) (h : Ap w12.heap.size w12.heap.size w12 w') => rowc3 (h.rowV R9.out)
    have LR11 := fun (w' : World) (h : Ap w12.heap.size w12.heap.size w12 w') => rowc3 (h.rowV R11.out)
    have LR12 := fun (w' : World) (h : Ap w12.heap.size w12.heap.size w12 w') => rowc3 (h.rowV R12.out)
    have hvr := Below.refl w12.heap.size w12
    have hv0 := hvr.drew
    first
    | go_region_held3 (fun w' => Ap w12.heap.size w12.heap.size w12 w') (first | (with_reducible assumption) | (with_reducible exact Ap.refl _ _ _) | ((repeat (first | with_reducible assumption | with_reducible exact Ap.refl _ _ _ | with_reducible refine Ap.drew ?_ | with_reducible refine Ap.alloc ?_ | with_reducible refine Ap.set1 ?_ | with_reducible refine Ap.set2 ?_ | with_reducible refine Ap.setN (by first | with_reducible assumption | with_reducible exact Nat.le_refl _ | with_reducible exact Nat.le_add_right _ _ | with_reducible exact Nat.le_trans (by assumption) (Nat.le_add_right _ _)) ?_)); done))
        (first
          | (go_at_call 22; (with_reducible refine (Q1.out _ (by first | with_reducible exact hv0) _ _ _ _ (by first | with_reducible exact KL.out | with_reducible exact (KL.out.below (Below.drew (Below.refl _ _)))) (by first | with_reducible exact KD.out | with_reducible exact (KD.out.below (Below.drew (Below.refl _ _))))).mono ?_); rintro e wq0 ⟨xa, xc, rfl, ka, hb⟩; have hv1 : Below w12.heap.size w12 wq0 := (by first | with_reducible exact bstep (hv0) hb); have hs1 := Ap.of_below (g := w12.heap.size) (h := w12.heap.size) hv1; have sz1 := hv1.size; have KD := Lib.hid (by first | with_reducible exact KD.out.below hb | with_reducible exact (KD.out.below (Below.drew (Below.refl _ _))).below hb); have KL := Lib.hid (by first | with_reducible exact KL.out.below hb | with_reducible exact (KL.out.below (Below.drew (Below.refl _ _))).below hb); have KH := Lib.hid (by first | with_reducible exact KH.out.below hb | with_reducible exact (KH.out.below (Below.drew (Below.refl _ _))).below hb); have KA := Lib.hid ka; clear ka; clear hb)
          | (go_at_call 22; (with_reducible refine (Q2.out _ (by first | with_reducible exact hv1) _ _ _ _ (by first | with_reducible exact KH.out | with_reducible exact (KH.out.below (Below.drew (Below.refl _ _)))) (by first | with_reducible exact KD.out | with_reducible exact (KD.out.below (Below.drew (Below.refl _ _))))).mono ?_); rintro e wq1 ⟨ya, yc, rfl, kb, hb⟩; have hv2 : Below w12.heap.size w12 wq1 := (by first | with_reducible exact bstep (hv1) hb); have hs2 := Ap.of_below (g := w12.heap.size) (h := w12.heap.size) hv2; have sz2 := hv2.size; have KD := Lib.hid (by first | with_reducible exact KD.out.below hb | with_reducible exact (KD.out.below (Below.drew (Below.refl _ _))).below hb); have KL := Lib.hid (by first | with_reducible exact KL.out.below hb | with_reducible exact (KL.out.below (Below.drew (Below.refl _ _))).below hb); have KH := Lib.hid (by first | with_reducible exact KH.out.below hb | with_reducible exact (KH.out.below (Below.drew (Below.refl _ _))).below hb); have KA := Lib.hid (by first | with_reducible exact KA.out.below hb | with_reducible exact (KA.out.below (Below.drew (Below.refl _ _))).below hb); have KB := Lib.hid kb; clear kb; clear hb)
          | (go_at_call 20; (with_reducible refine (Q3.out _ (by first | with_reducible exact hv2) _ _ _ _ (by first | with_reducible exact KA.out | with_reducible exact (KA.out.below (Below.drew (Below.refl _ _)))) (by first | with_reducible exact KB.out | with_reducible exact (KB.out.below (Below.drew (Below.refl _ _))))).mono ?_); rintro e wq2 ⟨rfl, hb⟩; have hv3 : Below w12.heap.size w12 wq2 := (by first | with_reducible exact bstep (hv2) hb); have hs3 := Ap.of_below (g := w12.heap.size) (h := w12.heap.size) hv3; have sz3 := hv3.size; have KD := Lib.hid (by first | with_reducible exact KD.out.below hb | with_reducible exact (KD.out.below (Below.drew (Below.refl _ _))).below hb); have KL := Lib.hid (by first | with_reducible exact KL.out.below hb | with_reducible exact (KL.out.below (Below.drew (Below.refl _ _))).below hb); have KH := Lib.hid (by first | with_reducible exact KH.out.below hb | with_reducible exact (KH.out.below (Below.drew (Below.refl _ _))).below hb); have KA := Lib.hid (by first | with_reducible exact KA.out.below hb | with_reducible exact (KA.out.below (Below.drew (Below.refl _ _))).below hb); have KB := Lib.hid (by first | with_reducible exact KB.out.below hb | with_reducible exact (KB.out.below (Below.drew (Below.refl _ _))).below hb); clear hb))
    | fail
    all_goals
      clear Q1 Q2 Q3 KA KB LR9 LR11 LR12
      replace hB := bstep hB hv3
      have R3 := Lib.hid (keep hv3 R3.out)
      have R4 := Lib.hid (keep hv3 R4.out)
      have R9 := Lib.hid (keep hv3 R9.out)
      have R11 := Lib.hid (keep hv3 R11.out)
      have R12 := Lib.hid (keep hv3 R12.out)
      clear hvr hv0 hv1 hv2 hv3 hs1 hs2 hs3 sz1 sz2 sz3
      obtain ⟨Y0, hY⟩ : ∃ Y, Y = wq2 := ⟨_, rfl⟩
      subst hY
    go_upto_region 16 with fail
    have Q1 := Lib.hid (fun W (hb : Below Y0.heap.size Y0 W) a b c d (k1 : RQ W a b lo_) (k2 : RQ W c d d_) => r3_Sub lo_ d_ a b c d W k1 k2 (zlo.mono (by decide)) (zd.mono (by decide)))
    have Q2 := Lib.hid (fun W (hb : Below Y0.heap.size Y0 W) a b c d (k1 : RQ W a b hi_) (k2 : RQ W c d d_) => r3_Sub hi_ d_ a b c d W k1 k2 (zhi.mono (by decide)) (zd.mono (by decide)))
    have M3 := Lib.hid (fun W (hE : Env W) a b c d h3 h4 (k1 : RQ W a b (lo_ - d_)) (k2 : RQ W c d (hi_ - d_)) => op_moved w.heap.size (w.heap.size + 1) oi of ot ok r0 r1 r2 h t lo hi (lo_ - d_) (hi_ - d_) dn a b c d W hE (by first | exact zlo.mono (by decide) | exact zhi.mono (by decide) | exact (sz_add zlo zd).mono (by decide) | exact (sz_sub zlo zd).mono (by decide) | exact ZM.out) (by first | exact zlo.mono (by decide) | exact zhi.mono (by decide) | exact (sz_add zhi zd).mono (by decide) | exact (sz_sub zhi zd).mono (by decide) | exact ZM.out) h3 h4 k1 k2 HM2.out)
    have Q3 := Lib.hid (fun W (hb : Below Y0.heap.size Y0 W) a b c d (k1 : RQ W a b (lo_ - d_)) (k2 : RQ W c d (hi_ - d_)) => M3.out W (HE.out.below (bstep hB hb)) a b c d (keep hb R3.out) (keep hb R4.out) k1 k2)
    clear M3
    have LR9 := fun (w' : World) (h : Ap Y0.heap.size Y0.heap.size Y0 w') => rowc3 (h.rowV R9.out)
    have LR11 := fun (w' : World) (h : Ap Y0.heap.size Y0.heap.size Y0 w') => rowc3 (h.rowV R11.out)
    have LR12 := fun (w' : World) (h : Ap Y0.heap.size Y0.heap.size Y0 w') => rowc3 (h.rowV R12.out)
    have hvr := Below.refl Y0.heap.size Y0
    have hv0 := hvr.drew
    first
    | go_region_held3 (fun w' => Ap Y0.heap.size Y0.heap.size Y0 w') (first | (with_reducible assumption) | (with_reducible exact Ap.refl _ _ _) | ((repeat (first | with_reducible assumption | with_reducible exact Ap.refl _ _ _ | with_reducible refine Ap.drew ?_ | with_reducible refine Ap.alloc ?_ | with_reducible refine Ap.set1 ?_ | with_reducible refine Ap.set2 ?_ | with_reducible refine Ap.setN (by first | with_reducible assumption | with_reducible exact Nat.le_refl _ | with_reducible exact Nat.le_add_right _ _ | with_reducible exact Nat.le_trans (by assumption) (Nat.le_add_right _ _)) ?_)); done))
        (first
          | (go_at_call 23; (with_reducible refine (Q1.out _ (by first | with_reducible exact hv0) _ _ _ _ (by first | with_reducible exact KL.out | with_reducible exact (KL.out.below (Below.drew (Below.refl _ _)))) (by first | with_reducible exact KD.out | with_reducible exact (KD.out.below (Below.drew (Below.refl _ _))))).mono ?_); rintro e wq0 ⟨xa, xc, rfl, ka, hb⟩; have hv1 : Below Y0.heap.size Y0 wq0 := (by first | with_reducible exact bstep (hv0) hb); have hs1 := Ap.of_below (g := Y0.heap.size) (h := Y0.heap.size) hv1; have sz1 := hv1.size; have KD := Lib.hid (by first | with_reducible exact KD.out.below hb | with_reducible exact (KD.out.below (Below.drew (Below.refl _ _))).below hb); have KL := Lib.hid (by first | with_reducible exact KL.out.below hb | with_reducible exact (KL.out.below (Below.drew (Below.refl _ _))).below hb); have KH := Lib.hid (by first | with_reducible exact KH.out.below hb | with_reducible exact (KH.out.below (Below.drew (Below.refl _ _))).below hb); have KA := Lib.hid ka; clear ka; clear hb)
          | (go_at_call 23; (with_reducible refine (Q2.out _ (by first | with_reducible exact hv1) _ _ _ _ (by first | with_reducible exact KH.out | with_reducible exact (KH.out.below (Below.drew (Below.refl _ _)))) (by first | with_reducible exact KD.out | with_reducible exact (KD.out.below (Below.drew (Below.refl _ _))))).mono ?_); rintro e wq1 ⟨ya, yc, rfl, kb, hb⟩; have hv2 : Below Y0.heap.size Y0 wq1 := (by first | with_reducible exact bstep (hv1) hb); have hs2 := Ap.of_below (g := Y0.heap.size) (h := Y0.heap.size) hv2; have sz2 := hv2.size; have KD := Lib.hid (by first | with_reducible exact KD.out.below hb | with_reducible exact (KD.out.below (Below.drew (Below.refl _ _))).below hb); have KL := Lib.hid (by first | with_reducible exact KL.out.below hb | with_reducible exact (KL.out.below (Below.drew (Below.refl _ _))).below hb); have KH := Lib.hid (by first | with_reducible exact KH.out.below hb | with_reducible exact (KH.out.below (Below.drew (Below.refl _ _))).below hb); have KA := Lib.hid (by first | with_reducible exact KA.out.below hb | with_reducible exact (KA.out.below (Below.drew (Below.refl _ _))).below hb); have KB := Lib.hid kb; clear kb; clear hb)
          | (go_at_call 20; (with_reducible refine (Q3.out _ (by first | with_reducible exact hv2) _ _ _ _ (by first | with_reducible exact KA.out | with_reducible exact (KA.out.below (Below.drew (Below.refl _ _)))) (by first | with_reducible exact KB.out | with_reducible exact (KB.out.below (Below.drew (Below.refl _ _))))).mono ?_); rintro e wq2 ⟨rfl, hb⟩; have hv3 : Below Y0.heap.size Y0 wq2 := (by first | with_reducible exact bstep (hv2) hb); have hs3 := Ap.of_below (g := Y0.heap.size) (h := Y0.heap.size) hv3; have sz3 := hv3.size; have KD := Lib.hid (by first | with_reducible exact KD.out.below hb | with_reducible exact (KD.out.below (Below.drew (Below.refl _ _))).below hb); have KL := Lib.hid (by first | with_reducible exact KL.out.below hb | with_reducible exact (KL.out.below (Below.drew (Below.refl _ _))).below hb); have KH := Lib.hid (by first | with_reducible exact KH.out.below hb | with_reducible exact (KH.out.below (Below.drew (Below.refl _ _))).below hb); have KA := Lib.hid (by first | with_reducible exact KA.out.below hb | with_reducible exact (KA.out.below (Below.drew (Below.refl _ _))).below hb); have KB := Lib.hid (by first | with_reducible exact KB.out.below hb | with_reducible exact (KB.out.below (Below.drew (Below.refl _ _))).below hb); clear hb))
    | fail
    all_goals
      clear Q1 Q2 Q3 KA KB LR9 LR11 LR12
      replace hB := bstep hB hv3
      have R3 := Lib.hid (keep hv3 R3.out)
      have R4 := Lib.hid (keep hv3 R4.out)
      have R9 := Lib.hid (keep hv3 R9.out)
      have R11 := Lib.hid (keep hv3 R11.out)
      have R12 := Lib.hid (keep hv3 R12.out)
      clear hvr hv0 hv1 hv2 hv3 hs1 hs2 hs3 sz1 sz2 sz3
      obtain ⟨Y1, hY⟩ : ∃ Y, Y = wq2 := ⟨_, rfl⟩
      subst hY
    have QM := Lib.hid (fun W a b c d (k1 : RQ W a b lo_) (k2 : RQ W c d hi_) => r3_Middle lo_ hi_ a b c d W k1 k2 (zlo.mono (by decide)) (zhi.mono (by decide)))
    have M4 := Lib.hid (fun W (hE : Env W) a b c d h3 h4 (k1 : RQ W a b lo_) (k2 : RQ W c d ((lo_ + hi_) * mkRat 1 2)) => op_moved w.heap.size (w.heap.size + 1) oi of ot ok r0 r1 r2 h t lo hi lo_ ((lo_ + hi_) * mkRat 1 2) _ a b c d W hE (by first | exact zlo.mono (by decide) | exact zhi.mono (by decide) | exact (sz_add zlo zd).mono (by decide) | exact (sz_sub zlo zd).mono (by decide) | exact ZM.out) (by first | exact zlo.mono (by decide) | exact zhi.mono (by decide) | exact (sz_add zhi zd).mono (by decide) | exact (sz_sub zhi zd).mono (by decide) | exact ZM.out) h3 h4 k1 k2 HM3.out)
    have M5 := Lib.hid (fun W (hE : Env W) a b c d h3 h4 (k1 : RQ W a b ((lo_ + hi_) * mkRat 1 2)) (k2 : RQ W c d hi_) => op_moved w.heap.size (w.heap.size + 1) oi of ot ok r0 r1 r2 h t lo hi ((lo_ + hi_) * mkRat 1 2) hi_ _ a b c d W hE (by first | exact zlo.mono (by decide) | exact zhi.mono (by decide) | exact (sz_add zlo zd).mono (by decide) | exact (sz_sub zlo zd).mono (by decide) | exact ZM.out) (by first | exact zlo.mono (by decide) | exact zhi.mono (by decide) | exact (sz_add zhi zd).mono (by decide) | exact (sz_sub zhi zd).mono (by decide) | exact ZM.out) h3 h4 k1 k2 HM4.out)
    clear HM1 HM2 HM3 HM4 KD R9
    obtain ⟨R11c0, R11c1, R11c2, R11f0, R11f1, R11f2⟩ := row3 R11.out
    obtain ⟨R12c0, R12c1, R12c2, R12f0, R12f1, R12f2⟩ := row3 R12.out
    go_wp2_with fail
    clear R11c0 R11c1 R11c2 R11f0 R11f1 R11f2
    clear R12c0 R12c1 R12c2 R12f0 R12f1 R12f2
    refine (QM.out _ _ _ _ _ KL.out KH.out).mono ?_
    rintro e w15 ⟨ma, mc, rfl, km, hb⟩
    replace hB := bstep hB hb
    have R3 := Lib.hid (keep hb R3.out)
    have R4 := Lib.hid (keep hb R4.out)
    have R11 := Lib.hid (keep hb R11.out)
    have R12 := Lib.hid (keep hb R12.out)
    have KL := Lib.hid (KL.out.below hb)
    have KH := Lib.hid (KH.out.below hb)
    have KM := Lib.hid km
    clear km
    clear hb
    go_upto_region 18 with fail
    generalize hW : World.alloc _ _ = V5
    obtain ⟨hb, hsz, R23⟩ := A1 hW
    replace hB := bstep hB hb
    have R3 := Lib.hid (keep hb R3.out)
    have R4 := Lib.hid (keep hb R4.out)
    have R11 := Lib.hid (keep hb R11.out)
    have R12 := Lib.hid (keep hb R12.out)
    have KL := Lib.hid (KL.out.below hb)
    have KH := Lib.hid (KH.out.below hb)
    have KM := Lib.hid (KM.out.below hb)
    clear hb
    have R23 := Lib.hid R23
    clear hW hsz
    obtain ⟨R11c0, R11c1, R11c2, R11f0, R11f1, R11f2⟩ := row3 R11.out
    obtain ⟨R23c0, R23c1, R23c2, R23f0, R23f1, R23f2⟩ := row3 R23.out
    go_wp2_with fail
    clear R11c0 R11c1 R11c2 R11f0 R11f1 R11f2
    clear R23c0 R23c1 R23c2 R23f0 R23f1 R23f2
    refine (M4.out _ (HE.out.below hB) _ _ _ _ R3.out R4.out KL.out KM.out).mono ?_
    rintro e w16 ⟨rfl, hb⟩
    replace hB := bstep hB hb
    have R3 := Lib.hid (keep hb R3.out)
    have R4 := Lib.hid (keep hb R4.out)
    have R12 := Lib.hid (keep hb R12.out)
    have R23 := Lib.hid (keep hb R23.out)
    have KH := Lib.hid (KH.out.below hb)
    have KM := Lib.hid (KM.out.below hb)
    clear hb R11 KL
    obtain ⟨R12c0, R12c1, R12c2, R12f0, R12f1, R12f2⟩ := row3 R12.out
    obtain ⟨R23c0, R23c1, R23c2, R23f0, R23f1, R23f2⟩ := row3 R23.out
    go_wp2_with fail
    clear R12c0 R12c1 R12c2 R12f0 R12f1 R12f2
    clear R23c0 R23c1 R23c2 R23f0 R23f1 R23f2
    refine (M5.out _ (HE.out.below hB) _ _ _ _ R3.out R4.out KM.out KH.out).mono ?_
    rintro e w17 ⟨rfl, hb⟩
    replace hB := bstep hB hb
    clear hb
    go_wp2_with fail
    go_ret
    exact ⟨rfl, hB⟩

end Go.Proofs.YthkkdepppjiaeaaGreatDoor

/- The law OpeningRises answers true at whatever opening, position and number. -/
namespace Go.Proofs.YthkkdepppjiaeaaGreatDoor
open Go.RowKit Go.Shelf Go.Sort

theorem cmpI_swp (a b : Int) : cmpI b a = -cmpI a b := by
  unfold cmpI
  split <;> split <;> (try split) <;> omega
theorem gt_cmpQ {x y : Rat} : 0 < cmpQ x y ↔ y < x := by
  have h : cmpQ y x = -cmpQ x y := cmpI_swp _ _
  rw [← cmpQ_neg (x := y) (y := x), h]
  omega
theorem le_cmpQ {x y : Rat} : cmpQ x y ≤ 0 ↔ ¬ y < x := by
  rw [← gt_cmpQ]
  omega
theorem wetX_is (x lo hi : Rat) : wetX x lo hi = if lo < x then (if hi < x then 0 else 1) else 2 := by
  unfold wetX
  simp only [decide_eq_true_iff, gt_cmpQ]
theorem wetC_yes {s : ByteArray × ByteArray} {r : ByteArray × ByteArray × ByteArray} {lo hi : ByteArray} (h : wetC s r lo hi = 0) : ivOk lo hi = true ∧ hokB s r = true := by
  unfold wetC at h
  cases hv : ivOk lo hi with
  | false =>
    rw [hv, if_neg (by decide)] at h
    exact absurd h (by decide)
  | true =>
    rw [hv, if_pos rfl] at h
    refine ⟨rfl, ?_⟩
    cases hk : hokB s r with
    | true => rfl
    | false =>
      have := hcode_ne hk
      rw [h] at this
      exact absurd this (by decide)
theorem wetR_no {s : ByteArray × ByteArray} {r : ByteArray × ByteArray × ByteArray} {lo hi : ByteArray} (h : wetC s r lo hi ≠ 0) : wetR s r lo hi = 0 := by
  unfold wetR
  rw [if_neg]
  intro hk
  rw [Bool.and_eq_true] at hk
  refine h ?_
  unfold wetC
  rw [if_pos hk.1, hcode_yes hk.2]
/-- Wet at a level of numbers. -/
theorem op_WetQ (oi of ot ok : Int) (s : ByteArray × ByteArray) (r : ByteArray × ByteArray × ByteArray) (x y : Rat) (w : World) (hE : Env w) (hs : ShH s r) (hk : hokB s r = true) (zx : Sz 10000 x) (zy : Sz 10000 y) (hle : ¬ y < x) :
    Calls Tryz.prog 14 #[.agg #[.int .i64 oi, .int .i64 of, .int .i64 ot, .int .i64 ok, .string r.1, .string r.2.1, .string r.2.2], .agg #[.string s.1, .string s.2, .string (rs x), .string (rs y)]] w fun e w' => e = .returned (.tuple #[.int .i64 (wetX (upX s r) x y), .int .i64 0]) ∧ Below w.heap.size w w' := by
  have n1 : (rs x).size ≤ 100000 := by have := rs_size x; have := zx.1; have := zx.2; omega
  have n2 : (rs y).size ≤ 100000 := by have := rs_size y; have := zy.1; have := zy.2; omega
  have h := op_WetA oi of ot ok s r (rs x) (rs y) w hE hs n1 n2
  have hv : ivOk (rs x) (rs y) = true := by
    unfold ivOk
    rw [rvB_rs, rvB_rs, rvX_rs, rvX_rs, decide_eq_true (le_cmpQ.2 hle)]
    rfl
  unfold wetR wetC at h
  rw [hv, hk, if_pos rfl, if_pos (show (true && true) = true from rfl), hcode_yes hk, rvX_rs, rvX_rs] at h
  exact h
theorem half_le {a b : Rat} (h : ¬ b < a) : ¬ (a + b) * mkRat 1 2 < a ∧ ¬ b < (a + b) * mkRat 1 2 := by
  have e : mkRat 1 2 = (1 : Rat) / 2 := by decide +kernel
  rw [e]
  exact ⟨by grind, by grind⟩
theorem sign_neg {d : Rat} : d.num.sign < 0 ↔ d < 0 := by
  rw [Rat.lt_iff]
  have e1 : (0 : Rat).den = 1 := rfl
  have e2 : (0 : Rat).num = 0 := rfl
  rw [e1, e2, Int.zero_mul]
  have : ((1 : Nat) : Int) = 1 := rfl
  rw [this, Int.mul_one]
  exact Int.sign_neg_iff

theorem la_op_rises (o : Opn) (h t lo hi d : ByteArray) (w : World) (hE : Env w) (hr : Mx o.pt) (hp : (h.size ≤ 9223372036854775807 ∧ t.size ≤ 9223372036854775807) ∧ lo.size ≤ 9223372036854775807 ∧ hi.size ≤ 9223372036854775807) (hd : d.size ≤ 9223372036854775807) :
    Calls Tryz.prog 3 #[opV o, .agg #[.string h, .string t, .string lo, .string hi], .string d] w fun e w' => e = .returned (.bool true) ∧ Below w.heap.size w w' := by
  obtain ⟨oi, of, ot, ok, r0, r1, r2⟩ := o
  unfold opV
  simp only
  have hS := fun (w : World) (_ : Env w) => r16_ShortV r0 r1 r2 w hr.1 hr.2.1 hr.2.2
  have hP := fun (w : World) (_ : Env w) => r31_ShortPosition h t lo hi w hp.1.1 hp.1.2 hp.2.1 hp.2.2
  have hY := fun (w : World) (_ : Env w) => r16_Short d w hd
  by_cases hs : (r0.size ≤ 40 ∧ r1.size ≤ 40 ∧ r2.size ≤ 40) ∧ ((h.size ≤ 40 ∧ t.size ≤ 40) ∧ lo.size ≤ 40 ∧ hi.size ≤ 40) ∧ d.size ≤ 40
  · obtain ⟨⟨s3, s4, s5⟩, ⟨⟨s1, s2⟩, s6, s7⟩, s8⟩ := hs
    simp only [decide_eq_true s1, decide_eq_true s2, decide_eq_true s6, decide_eq_true s7, Bool.and_self] at hP
    simp only [decide_eq_true s3, decide_eq_true s4, decide_eq_true s5, Bool.and_self] at hS
    simp only [decide_eq_true s8] at hY
    have up : ∀ {k : Nat}, k ≤ 40 → k ≤ 100 := fun h => Nat.le_trans h (by decide)
    have upl : ∀ {k : Nat}, k ≤ 40 → k ≤ 100000 := fun h => Nat.le_trans h (by decide)
    have hsh : ShH (h, t) (r0, r1, r2) := ⟨up s1, up s2, up s3, up s4, up s5⟩
    have hW := fun w hE => op_WetA oi of ot ok (h, t) (r0, r1, r2) lo hi w hE hsh (upl s6) (upl s7)
    have hF := fun w => r3_From d w (Nat.le_trans s8 (by decide))
    unfold FrP at hF
    have hG := fun w p q k => r3_Sign (rvX d) p q w k
    by_cases hc : wetC (h, t) (r0, r1, r2) lo hi = 0
    · cases hb : rvB d with
      | false =>
        rw [hb] at hF
        exact la31_ris_stop oi of ot ok r0 r1 r2 h t lo hi d _ _ _ (rvX d) false w hE (.inr (.inl ⟨hc, rfl⟩)) hS hP hY hW hF hG
      | true =>
        rw [hb] at hF
        by_cases hsg : (rvX d).num.sign < 0
        · exact la31_ris_stop oi of ot ok r0 r1 r2 h t lo hi d _ _ _ (rvX d) true w hE (.inr (.inr ⟨hc, rfl, hsg⟩)) hS hP hY hW hF hG
        · obtain ⟨hv, hk⟩ := wetC_yes hc
          have hv0 := hv
          unfold ivOk at hv
          rw [Bool.and_eq_true, Bool.and_eq_true, decide_eq_true_iff, le_cmpQ] at hv
          obtain ⟨⟨b1, b2⟩, hle⟩ := hv
          have hd0 : ¬ rvX d < 0 := fun q => hsg (sign_neg.2 q)
          have zd : Sz 41 (rvX d) := sz_rvX s8 (by decide)
          have zl : Sz 41 (rvX lo) := sz_rvX s6 (by decide)
          have zh : Sz 41 (rvX hi) := sz_rvX s7 (by decide)
          have hH := fun w hE => op_HeightA oi of ot ok (h, t) (r0, r1, r2) w hE hsh
          rw [hk, hcode_yes hk] at hH
          unfold hgtR at hH
          rw [if_pos rfl] at hH
          rw [show wetC (h, t) (r0, r1, r2) lo hi = 0 from hc, show wetR (h, t) (r0, r1, r2) lo hi = wetX (upX (h, t) (r0, r1, r2)) (rvX lo) (rvX hi) by unfold wetR; rw [hv0, hk]; rfl] at hW
          have zu : Sz 100000 (upX (h, t) (r0, r1, r2)) := (szV_turn (sz_rvX s1 (by decide) : Sz 41 (rvX h)) (sz_rvX s2 (by decide) : Sz 41 (rvX t)) (⟨sz_rvX s3 (by decide), sz_rvX s4 (by decide), sz_rvX s5 (by decide)⟩ : SzV 41 (vvX (r0, r1, r2))) (by decide)).2.2.mono (by decide)
          have hZ := fun w => r3_From (rs (upX (h, t) (r0, r1, r2))) w (by have := rs_size (upX (h, t) (r0, r1, r2)); have := zu.1; have := zu.2; omega)
          unfold FrP at hZ
          rw [rvX_rs, rvB_rs] at hZ
          have hB := fun w => r3_Both_aux lo hi (rvX lo) (rvX hi) (rvB lo) (rvB hi) w (fun w => r3_From lo w (Nat.le_trans s6 (by decide))) (fun w => r3_From hi w (Nat.le_trans s7 (by decide)))
          rw [b1, b2] at hB
          have zm : Sz 1000 ((rvX lo + rvX hi) * mkRat 1 2) := (sz_mul (sz_add zl zh) (show Sz 2 (mkRat 1 2) by constructor <;> decide +kernel)).mono (by decide)
          obtain ⟨m1, m2⟩ := half_le hle
          have M1 := fun w hE => op_WetQ oi of ot ok (h, t) (r0, r1, r2) (rvX lo + rvX d) (rvX hi + rvX d) w hE hsh hk ((sz_add zl zd).mono (by decide)) ((sz_add zh zd).mono (by decide)) (by grind)
          have M2 := fun w hE => op_WetQ oi of ot ok (h, t) (r0, r1, r2) (rvX lo - rvX d) (rvX hi - rvX d) w hE hsh hk ((sz_sub zl zd).mono (by decide)) ((sz_sub zh zd).mono (by decide)) (by grind)
          have M3 := fun w hE => op_WetQ oi of ot ok (h, t) (r0, r1, r2) (rvX lo) ((rvX lo + rvX hi) * mkRat 1 2) w hE hsh hk (zl.mono (by decide)) (zm.mono (by decide)) m1
          have M4 := fun w hE => op_WetQ oi of ot ok (h, t) (r0, r1, r2) ((rvX lo + rvX hi) * mkRat 1 2) (rvX hi) w hE hsh hk (zm.mono (by decide)) (zh.mono (by decide)) m2
          have L1 := fun (w : World) (a b c d : Sl) (k1 : RQ w a b (rvX lo)) (k2 : RQ w c d (upX (h, t) (r0, r1, r2))) => r3_Less (rvX lo) _ a b c d w k1 k2 (zl.mono (by decide)) (zu.mono (by decide))
          have L2 := fun (w : World) (a b c d : Sl) (k1 : RQ w a b (rvX hi)) (k2 : RQ w c d (upX (h, t) (r0, r1, r2))) => r3_Less (rvX hi) _ a b c d w k1 k2 (zh.mono (by decide)) (zu.mono (by decide))
          refine la31_ris_go oi of ot ok r0 r1 r2 h t lo hi d _ _ _ _ _ _ _ _ _ (rvX d) (rvX lo) (rvX hi) _ w hE hsg (zd.mono (by decide)) (zl.mono (by decide)) (zh.mono (by decide)) ?_ hS hP hY hW hF hG hB hH hZ L1 L2 M1 M2 M3 M4
          generalize upX (h, t) (r0, r1, r2) = u at *
          generalize rvX lo = l at *
          generalize rvX hi = k at *
          generalize rvX d = e at *
          generalize (l + k) * mkRat 1 2 = m at *
          simp only [wetX_is, cmpQ_neg]
          clear hW hH hZ hB M1 M2 M3 M4 L1 L2 hF hG hS hP hY
          by_cases g1 : l < u
          · by_cases g2 : k < u
            · refine .inr (.inr ?_)
              have a1 : l - e < u := by grind
              have a2 : k - e < u := by grind
              have a3 : m < u := by grind
              refine ⟨by rw [if_pos g1, if_pos g2], decide_eq_true g1, decide_eq_true g2, ?_, ?_, ?_, ?_⟩
              · split
                · split <;> decide
                · decide
              · rw [if_pos a1, if_pos a2]; decide
              · rw [if_pos g1, if_pos a3]
              · rw [if_pos a3, if_pos g2]
            · refine .inr (.inl ?_)
              have a1 : l - e < u := by grind
              have a2 : ¬ k + e < u := by grind
              refine ⟨by rw [if_pos g1, if_neg g2], decide_eq_true g1, decide_eq_false g2, ?_, ?_⟩
              · rw [if_neg a2]
                split <;> decide
              · rw [if_pos a1]
                split <;> decide
          · refine .inl ?_
            have g2 : ¬ k < u := by grind
            have a1 : ¬ l + e < u := by grind
            have a2 : ¬ m < u := by grind
            refine ⟨by rw [if_neg g1], decide_eq_false g1, decide_eq_false g2, ?_, ?_, ?_, ?_⟩
            · rw [if_neg a1]; decide
            · split
              · split <;> decide
              · decide
            · rw [if_neg g1]
            · rw [if_neg a2]
    · exact la31_ris_stop oi of ot ok r0 r1 r2 h t lo hi d _ _ _ (rvX d) _ w hE (.inl ⟨by rw [bne_iff_ne]; exact hc, wetR_no hc⟩) hS hP hY hW hF hG
  · exact la31_ris_no oi of ot ok r0 r1 r2 h t lo hi d _ _ _ w hE (by
      rw [Bool.eq_false_iff]
      intro q
      simp only [Bool.and_eq_true, decide_eq_true_iff] at q
      exact hs q) hS hP hY
end Go.Proofs.YthkkdepppjiaeaaGreatDoor
