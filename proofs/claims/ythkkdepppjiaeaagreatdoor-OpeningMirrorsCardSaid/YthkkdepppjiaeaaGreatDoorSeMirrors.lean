/- A PART OF THE PROOF, JOINED OUT OF 2 TEXTS. -/
import Derived.Test.YthkkdepppjiaeaaGreatDoorScOpening
import Derived.Test.YthkkdepppjiaeaaGreatDoorSaOpening
import Derived.Test.YthkkdepppjiaeaaGreatDoorQxMirrors
import Derived.Test.YthkkdepppjiaeaaGreatDoorPnLaw
/- The law OpeningMirrors. -/
namespace Go.Proofs.YthkkdepppjiaeaaGreatDoor
open Go.RowKit Go.Shelf Go.Sort

attribute [local go_sem] Oper.semAt_some


set_option maxRecDepth 100000 in
set_option maxHeartbeats 4000000 in
theorem op_minus (x : Rat) (s : ByteArray) (ok : Bool) (w : World)
    (h0 : ∀ w, Calls Tryz.prog 15 #[.string s] w fun e w' => ∃ p d : Sl, e = .returned (.tuple #[qW (sgB x.num) p d, .bool ok]) ∧ RQ w' p d x ∧ Below w.heap.size w w')
    (hz : Sz 20000000 x) :
    Calls Tryz.prog 26 #[.string s] w fun e w' => e = .returned (.string (rs (-x))) ∧ Below w.heap.size w w' := by
  have H0 := Lib.hid h0
  have H1 := Lib.hid (fun W p d (k : RQ W p d x) => r3_Neg x p d W k)
  have H2 := Lib.hid (fun W p d (k : RQ W p d (-x)) => r3_To (-x) p d W k ((sz_neg hz).mono (by decide)))
  clear h0 hz
  generalize rs (-x) = T at *
  generalize -x = y at *
  generalize sgB x.num = bx at *
  generalize sgB y.num = by_ at *
  go_enter Tryz.func26, Tryz.ntmps26
  go_wp2_with fail
  refine (H0.out _).mono ?_
  rintro e w1 ⟨p, d, rfl, k0, hB⟩
  have K0 := Lib.hid k0
  clear k0
  go_upto_region 2 with fail
  generalize hW : World.alloc _ _ = V
  obtain ⟨hb, hsz, R3⟩ := A1 hW
  replace hB := bstep hB hb
  have K0 := Lib.hid (K0.out.below hb)
  clear hb
  have R3 := Lib.hid R3
  clear hW hsz
  obtain ⟨R3c0, R3c1, R3c2, R3f0, R3f1, R3f2⟩ := row3 R3.out
  go_wp2_with fail
  clear R3c0 R3c1 R3c2 R3f0 R3f1 R3f2
  refine (H1.out _ p d K0.out).mono ?_
  rintro e w2 ⟨p2, d2, rfl, k1, hb⟩
  replace hB := bstep hB hb
  have K1 := Lib.hid k1
  clear k1
  clear hb
  go_wp2_with fail
  refine (H2.out _ p2 d2 K1.out).mono ?_
  rintro e w3 ⟨rfl, hb⟩
  replace hB := bstep hB hb
  go_wp2_with fail
  go_ret
  exact ⟨rfl, hB⟩


set_option maxRecDepth 100000 in
set_option maxHeartbeats 4000000 in
theorem la31_mir_no (oi of ot ok : Int) (r0 r1 r2 : ByteArray) (h t : ByteArray) (b1 b2 : Bool) (w : World) (hE : Env w) (hr : (b1 && b2) = false)
    (hs : ∀ w, Env w → Calls Tryz.prog 11 #[.agg #[.string r0, .string r1, .string r2]] w fun e w' => e = .returned (.bool b1) ∧ Below w.heap.size w w')
    (ht : ∀ w, Env w → Calls Tryz.prog 25 #[.agg #[.string h, .string t]] w fun e w' => e = .returned (.bool b2) ∧ Below w.heap.size w w') :
    Calls Tryz.prog 4 #[.agg #[.int .i64 oi, .int .i64 of, .int .i64 ot, .int .i64 ok, .string r0, .string r1, .string r2], .agg #[.string h, .string t]] w fun e w' => e = .returned (.bool true) ∧ Below w.heap.size w w' := by
  have H0 := Lib.hid (fun w hE => la31_awake w hE)
  have HS := Lib.hid hs
  have HT := Lib.hid ht
  have HE := Lib.hid hE
  clear hE hs ht
  cases b1
  · clear hr
    go_enter Tryz.func4, Tryz.ntmps4
    go_upto_region 1 with fail
    generalize hW : (World.alloc w _).alloc _ = W
    obtain ⟨hB, hsz, R2, R3⟩ := A2 hW
    have R2 := Lib.hid R2
    have R3 := Lib.hid R3
    clear hW hsz
    go_wp2_with fail
    refine (H0.out _ (HE.out.below hB)).mono ?_
    rintro e w1 ⟨rfl, hb⟩
    replace hB := bstep hB hb
    have R2 := Lib.hid (keep hb R2.out)
    have R3 := Lib.hid (keep hb R3.out)
    clear hb
    obtain ⟨R2c0, R2c1, R2c2, R2c3, R2c4, R2c5, R2c6, R2f0, R2f1, R2f2, R2f3, R2f4, R2f5, R2f6⟩ := row7 R2.out
    go_wp2_with fail
    clear R2c0 R2c1 R2c2 R2c3 R2c4 R2c5 R2c6 R2f0 R2f1 R2f2 R2f3 R2f4 R2f5 R2f6
    refine (HS.out _ (HE.out.below hB)).mono ?_
    rintro e w2 ⟨rfl, hb⟩
    replace hB := bstep hB hb
    have R2 := Lib.hid (keep hb R2.out)
    have R3 := Lib.hid (keep hb R3.out)
    clear hb
    go_wp2_with fail
    go_ret
    exact ⟨rfl, hB⟩
  · obtain rfl : b2 = false := by simpa using hr
    clear hr
    go_enter Tryz.func4, Tryz.ntmps4
    go_upto_region 1 with fail
    generalize hW : (World.alloc w _).alloc _ = W
    obtain ⟨hB, hsz, R2, R3⟩ := A2 hW
    have R2 := Lib.hid R2
    have R3 := Lib.hid R3
    clear hW hsz
    go_wp2_with fail
    refine (H0.out _ (HE.out.below hB)).mono ?_
    rintro e w1 ⟨rfl, hb⟩
    replace hB := bstep hB hb
    have R2 := Lib.hid (keep hb R2.out)
    have R3 := Lib.hid (keep hb R3.out)
    clear hb
    obtain ⟨R2c0, R2c1, R2c2, R2c3, R2c4, R2c5, R2c6, R2f0, R2f1, R2f2, R2f3, R2f4, R2f5, R2f6⟩ := row7 R2.out
    go_wp2_with fail
    clear R2c0 R2c1 R2c2 R2c3 R2c4 R2c5 R2c6 R2f0 R2f1 R2f2 R2f3 R2f4 R2f5 R2f6
    refine (HS.out _ (HE.out.below hB)).mono ?_
    rintro e w2 ⟨rfl, hb⟩
    replace hB := bstep hB hb
    have R2 := Lib.hid (keep hb R2.out)
    have R3 := Lib.hid (keep hb R3.out)
    clear hb
    obtain ⟨R3c0, R3c1, R3f0, R3f1⟩ := row2 R3.out
    go_wp2_with fail
    clear R3c0 R3c1 R3f0 R3f1
    refine (HT.out _ (HE.out.below hB)).mono ?_
    rintro e w3 ⟨rfl, hb⟩
    replace hB := bstep hB hb
    have R2 := Lib.hid (keep hb R2.out)
    have R3 := Lib.hid (keep hb R3.out)
    clear hb
    go_wp2_with fail
    go_ret
    exact ⟨rfl, hB⟩


set_option maxRecDepth 100000 in
set_option maxHeartbeats 4000000 in
theorem la31_mir_err (oi of ot ok : Int) (r0 r1 r2 : ByteArray) (h t : ByteArray) (cc : Int) (w : World) (hE : Env w) (hc1 : (cc != 0) = true)
    (hs : ∀ w, Env w → Calls Tryz.prog 11 #[.agg #[.string r0, .string r1, .string r2]] w fun e w' => e = .returned (.bool true) ∧ Below w.heap.size w w')
    (ht : ∀ w, Env w → Calls Tryz.prog 25 #[.agg #[.string h, .string t]] w fun e w' => e = .returned (.bool true) ∧ Below w.heap.size w w')
    (hh : ∀ w, Env w → Calls Tryz.prog 18 #[.agg #[.int .i64 oi, .int .i64 of, .int .i64 ot, .int .i64 ok, .string r0, .string r1, .string r2], .agg #[.string h, .string t]] w fun e w' => e = .returned (.tuple #[.string ⟨#[]⟩, .int .i64 cc]) ∧ Below w.heap.size w w') :
    Calls Tryz.prog 4 #[.agg #[.int .i64 oi, .int .i64 of, .int .i64 ot, .int .i64 ok, .string r0, .string r1, .string r2], .agg #[.string h, .string t]] w fun e w' => e = .returned (.bool true) ∧ Below w.heap.size w w' := by
  have H0 := Lib.hid (fun w hE => la31_awake w hE)
  have HS := Lib.hid hs
  have HT := Lib.hid ht
  have HH := Lib.hid hh
  have HE := Lib.hid hE
  clear hE hs ht hh
  go_enter Tryz.func4, Tryz.ntmps4
  go_upto_region 1 with fail
  generalize hW : (World.alloc w _).alloc _ = W
  obtain ⟨hB, hsz, R2, R3⟩ := A2 hW
  have R2 := Lib.hid R2
  have R3 := Lib.hid R3
  clear hW hsz
  go_wp2_with fail
  refine (H0.out _ (HE.out.below hB)).mono ?_
  rintro e w1 ⟨rfl, hb⟩
  replace hB := bstep hB hb
  have R2 := Lib.hid (keep hb R2.out)
  have R3 := Lib.hid (keep hb R3.out)
  clear hb
  obtain ⟨R2c0, R2c1, R2c2, R2c3, R2c4, R2c5, R2c6, R2f0, R2f1, R2f2, R2f3, R2f4, R2f5, R2f6⟩ := row7 R2.out
  go_wp2_with fail
  clear R2c0 R2c1 R2c2 R2c3 R2c4 R2c5 R2c6 R2f0 R2f1 R2f2 R2f3 R2f4 R2f5 R2f6
  refine (HS.out _ (HE.out.below hB)).mono ?_
  rintro e w2 ⟨rfl, hb⟩
  replace hB := bstep hB hb
  have R2 := Lib.hid (keep hb R2.out)
  have R3 := Lib.hid (keep hb R3.out)
  clear hb
  obtain ⟨R3c0, R3c1, R3f0, R3f1⟩ := row2 R3.out
  go_wp2_with fail
  clear R3c0 R3c1 R3f0 R3f1
  refine (HT.out _ (HE.out.below hB)).mono ?_
  rintro e w3 ⟨rfl, hb⟩
  replace hB := bstep hB hb
  have R2 := Lib.hid (keep hb R2.out)
  have R3 := Lib.hid (keep hb R3.out)
  clear hb
  obtain ⟨R2c0, R2c1, R2c2, R2c3, R2c4, R2c5, R2c6, R2f0, R2f1, R2f2, R2f3, R2f4, R2f5, R2f6⟩ := row7 R2.out
  obtain ⟨R3c0, R3c1, R3f0, R3f1⟩ := row2 R3.out
  go_wp2_with fail
  clear R2c0 R2c1 R2c2 R2c3 R2c4 R2c5 R2c6 R2f0 R2f1 R2f2 R2f3 R2f4 R2f5 R2f6
  clear R3c0 R3c1 R3f0 R3f1
  refine (HH.out _ (HE.out.below hB)).mono ?_
  rintro e w4 ⟨rfl, hb⟩
  replace hB := bstep hB hb
  have R2 := Lib.hid (keep hb R2.out)
  have R3 := Lib.hid (keep hb R3.out)
  clear hb
  go_wp2_with fail
  go_ret
  exact ⟨rfl, hB⟩

theorem mir_store {V Z : World} {g f : Nat} {c0 c1 c2 c3 c4 c5 c6 d0 d1 y h1 : Value} {t t' : TypeId} (hZ : (V.setCell ⟨g, 5, none⟩ y).setCell ⟨f, 0, none⟩ h1 = Z) (hne : f ≠ g)
    (r2 : V.heap[g]? = some (.cells #[c0, c1, c2, c3, c4, c5, c6] t (0, 0))) (r3 : V.heap[f]? = some (.cells #[d0, d1] t' (0, 0))) :
    Z.heap[g]? = some (.cells #[c0, c1, c2, c3, c4, y, c6] t (0, 0)) ∧ Z.heap[f]? = some (.cells #[h1, d1] t' (0, 0)) ∧ ∀ B w, B ≤ g → B ≤ f → Below B w V → Below B w Z := by
  subst hZ
  refine ⟨?_, ?_, fun B w b1 b2 h => (h.setCell (p := ⟨g, 5, none⟩) b1 _).setCell (p := ⟨f, 0, none⟩) b2 _⟩
  · rw [heap_setCell_other _ ⟨f, 0, none⟩ _ _ (Ne.symm hne), heap_setCell_same _ g 5 _ _ y r2]
    simp only [List.setIfInBounds_toArray, List.set_cons_zero, List.set_cons_succ]
  · have h := heap_setCell_other V ⟨g, 5, none⟩ _ y hne
    rw [heap_setCell_same _ f 0 _ _ h1 (h.trans r3)]
    simp only [List.setIfInBounds_toArray, List.set_cons_zero]


set_option maxRecDepth 100000 in
set_option maxHeartbeats 16000000 in
theorem la31_mir_ok (oi of ot ok : Int) (r0 r1 r2 : ByteArray) (h t y1 h1 u u2 : ByteArray) (w : World) (hE : Env w) (hu : u = u2)
    (hs : ∀ w, Env w → Calls Tryz.prog 11 #[.agg #[.string r0, .string r1, .string r2]] w fun e w' => e = .returned (.bool true) ∧ Below w.heap.size w w')
    (ht : ∀ w, Env w → Calls Tryz.prog 25 #[.agg #[.string h, .string t]] w fun e w' => e = .returned (.bool true) ∧ Below w.heap.size w w')
    (hh : ∀ w, Env w → Calls Tryz.prog 18 #[.agg #[.int .i64 oi, .int .i64 of, .int .i64 ot, .int .i64 ok, .string r0, .string r1, .string r2], .agg #[.string h, .string t]] w fun e w' => e = .returned (.tuple #[.string u, .int .i64 0]) ∧ Below w.heap.size w w')
    (hm : ∀ w, Env w → Calls Tryz.prog 26 #[.string r1] w fun e w' => e = .returned (.string y1) ∧ Below w.heap.size w w')
    (hn : ∀ w, Env w → Calls Tryz.prog 26 #[.string h] w fun e w' => e = .returned (.string h1) ∧ Below w.heap.size w w')
    (hk : ∀ w, Env w → Calls Tryz.prog 18 #[.agg #[.int .i64 oi, .int .i64 of, .int .i64 ot, .int .i64 ok, .string r0, .string y1, .string r2], .agg #[.string h1, .string t]] w fun e w' => e = .returned (.tuple #[.string u2, .int .i64 0]) ∧ Below w.heap.size w w') :
    Calls Tryz.prog 4 #[.agg #[.int .i64 oi, .int .i64 of, .int .i64 ot, .int .i64 ok, .string r0, .string r1, .string r2], .agg #[.string h, .string t]] w fun e w' => e = .returned (.bool true) ∧ Below w.heap.size w w' := by
  have H0 := Lib.hid (fun w hE => la31_awake w hE)
  have HS := Lib.hid hs
  have HT := Lib.hid ht
  have HH := Lib.hid hh
  have HM := Lib.hid hm
  have HN := Lib.hid hn
  have HK := Lib.hid hk
  have HE := Lib.hid hE
  clear hE hs ht hh hm hn hk
  go_enter Tryz.func4, Tryz.ntmps4
  go_upto_region 1 with fail
  generalize hW : (World.alloc w _).alloc _ = W
  obtain ⟨hB, hsz, R2, R3⟩ := A2 hW
  have R2 := Lib.hid R2
  have R3 := Lib.hid R3
  clear hW hsz
  go_wp2_with fail
  refine (H0.out _ (HE.out.below hB)).mono ?_
  rintro e w1 ⟨rfl, hb⟩
  replace hB := bstep hB hb
  have R2 := Lib.hid (keep hb R2.out)
  have R3 := Lib.hid (keep hb R3.out)
  clear hb
  obtain ⟨R2c0, R2c1, R2c2, R2c3, R2c4, R2c5, R2c6, R2f0, R2f1, R2f2, R2f3, R2f4, R2f5, R2f6⟩ := row7 R2.out
  go_wp2_with fail
  clear R2c0 R2c1 R2c2 R2c3 R2c4 R2c5 R2c6 R2f0 R2f1 R2f2 R2f3 R2f4 R2f5 R2f6
  refine (HS.out _ (HE.out.below hB)).mono ?_
  rintro e w2 ⟨rfl, hb⟩
  replace hB := bstep hB hb
  have R2 := Lib.hid (keep hb R2.out)
  have R3 := Lib.hid (keep hb R3.out)
  clear hb
  obtain ⟨R3c0, R3c1, R3f0, R3f1⟩ := row2 R3.out
  go_wp2_with fail
  clear R3c0 R3c1 R3f0 R3f1
  refine (HT.out _ (HE.out.below hB)).mono ?_
  rintro e w3 ⟨rfl, hb⟩
  replace hB := bstep hB hb
  have R2 := Lib.hid (keep hb R2.out)
  have R3 := Lib.hid (keep hb R3.out)
  clear hb
  obtain ⟨R2c0, R2c1, R2c2, R2c3, R2c4, R2c5, R2c6, R2f0, R2f1, R2f2, R2f3, R2f4, R2f5, R2f6⟩ := row7 R2.out
  obtain ⟨R3c0, R3c1, R3f0, R3f1⟩ := row2 R3.out
  go_wp2_with fail
  clear R2c0 R2c1 R2c2 R2c3 R2c4 R2c5 R2c6 R2f0 R2f1 R2f2 R2f3 R2f4 R2f5 R2f6
  clear R3c0 R3c1 R3f0 R3f1
  refine (HH.out _ (HE.out.below hB)).mono ?_
  rintro e w4 ⟨rfl, hb⟩
  replace hB := bstep hB hb
  have R2 := Lib.hid (keep hb R2.out)
  have R3 := Lib.hid (keep hb R3.out)
  clear hb
  go_upto_region 9 with fail
  have T1 := Lib.hid (fun W (hb : Below w4.heap.size w4 W) => HM.out W (HE.out.below (bstep hB hb)))
  have T2 := Lib.hid (fun W (hb : Below w4.heap.size w4 W) => HN.out W (HE.out.below (bstep hB hb)))
  clear H0 HS HT HH HM HN
  obtain ⟨q0, q1, q2, q3, q4, q5, q6⟩ := rowc7 R2.out
  obtain ⟨p0, p1⟩ := rowc2 R3.out
  have hv0 := (Below.refl w4.heap.size w4).drew
  first
  | go_region_with (first
      | (go_at_call 26; (with_reducible refine (T1.out _ hv0).mono ?_); rintro e wq0 ⟨rfl, hb⟩; have hv1 := bstep hv0 hb; have RA := keep hv1 R2.out; have RB := keep hv1 R3.out; obtain ⟨q0, q1, q2, q3, q4, q5, q6⟩ := rowc7 RA; obtain ⟨p0, p1⟩ := rowc2 RB; clear hb RA RB)
      | (go_at_call 26; (with_reducible refine (T2.out _ hv1).mono ?_); rintro e wq1 ⟨rfl, hb⟩; have hv2 := bstep hv1 hb; have RA := keep hv2 R2.out; have RB := keep hv2 R3.out; obtain ⟨q0, q1, q2, q3, q4, q5, q6, q7, q8, q9, q10, q11, q12, q13⟩ := row7 RA; obtain ⟨p0, p1, p2, p3⟩ := row2 RB; clear hb))
  | fail
  all_goals
    generalize hZ : World.setCell (World.setCell _ _ _) _ _ = Z
    obtain ⟨S7, S2, hBZ⟩ := mir_store hZ (by omega) RA RB
    have hB := hBZ _ _ (Nat.le_refl _) (by omega) (bstep hB hv2)
    have R2 := Lib.hid S7
    have R3 := Lib.hid S2
    clear hZ hBZ S7 S2 RA RB q0 q1 q2 q3 q4 q5 q6 q7 q8 q9 q10 q11 q12 q13 p0 p1 p2 p3 T1 T2
    obtain ⟨R2c0, R2c1, R2c2, R2c3, R2c4, R2c5, R2c6, R2f0, R2f1, R2f2, R2f3, R2f4, R2f5, R2f6⟩ := row7 R2.out
    obtain ⟨R3c0, R3c1, R3f0, R3f1⟩ := row2 R3.out
    go_wp2_with fail
    clear R2c0 R2c1 R2c2 R2c3 R2c4 R2c5 R2c6 R2f0 R2f1 R2f2 R2f3 R2f4 R2f5 R2f6
    clear R3c0 R3c1 R3f0 R3f1
    refine (HK.out _ (HE.out.below hB)).mono ?_
    rintro e w7 ⟨rfl, hb⟩
    replace hB := bstep hB hb
    clear hb
    go_wp2_with fail
    go_ret
    exact ⟨rfl, hB⟩
end Go.Proofs.YthkkdepppjiaeaaGreatDoor

/- The law OpeningMirrors answers true at whatever opening and attitude. -/
namespace Go.Proofs.YthkkdepppjiaeaaGreatDoor
open Go.RowKit Go.Shelf Go.Sort

theorem la_op_mirrors (o : Opn) (h t : ByteArray) (w : World) (hE : Env w) (hr : Mx o.pt) (hm : h.size ≤ 9223372036854775807 ∧ t.size ≤ 9223372036854775807) :
    Calls Tryz.prog 4 #[opV o, .agg #[.string h, .string t]] w fun e w' => e = .returned (.bool true) ∧ Below w.heap.size w w' := by
  obtain ⟨oi, of, ot, ok, r0, r1, r2⟩ := o
  unfold opV
  simp only
  have hS := fun (w : World) (_ : Env w) => r16_ShortV r0 r1 r2 w hr.1 hr.2.1 hr.2.2
  have hT := fun (w : World) (_ : Env w) => r16_ShortA h t w hm.1 hm.2
  by_cases hs : (r0.size ≤ 40 ∧ r1.size ≤ 40 ∧ r2.size ≤ 40) ∧ h.size ≤ 40 ∧ t.size ≤ 40
  · obtain ⟨⟨s3, s4, s5⟩, s1, s2⟩ := hs
    simp only [decide_eq_true s1, decide_eq_true s2, Bool.and_self] at hT
    simp only [decide_eq_true s3, decide_eq_true s4, decide_eq_true s5, Bool.and_self] at hS
    have up : ∀ {k : Nat}, k ≤ 40 → k ≤ 100 := fun h => Nat.le_trans h (by decide)
    have hU := fun w hE => op_HeightA oi of ot ok (h, t) (r0, r1, r2) w hE ⟨up s1, up s2, up s3, up s4, up s5⟩
    cases hk : hokB (h, t) (r0, r1, r2) with
    | false =>
      rw [hk] at hU
      exact la31_mir_err oi of ot ok r0 r1 r2 h t _ w hE (hcode_ne hk) hS hT hU
    | true =>
      rw [hk, hcode_yes hk] at hU
      have hk0 := hk
      unfold hokB at hk
      simp only at hk
      rw [Bool.and_eq_true, Bool.and_eq_true] at hk
      have z1 : Sz 41 (rvX h) := sz_rvX s1 (by decide)
      have y1 : Sz 41 (rvX r1) := sz_rvX s4 (by decide)
      have b0 : rvB r0 = true := by have := hk.1.2; unfold vvB at this; rw [Bool.and_eq_true, Bool.and_eq_true] at this; exact this.1.1
      have b2 : rvB r2 = true := by have := hk.1.2; unfold vvB at this; rw [Bool.and_eq_true, Bool.and_eq_true] at this; exact this.2
      have bt : rvB t = true := by have := hk.1.1; rw [Bool.and_eq_true] at this; exact this.2
      have n1 : (rs (-rvX h)).size ≤ 100 := by have := rs_size (-rvX h); have := (sz_neg z1).1; have := (sz_neg z1).2; omega
      have n2 : (rs (-rvX r1)).size ≤ 100 := by have := rs_size (-rvX r1); have := (sz_neg y1).1; have := (sz_neg y1).2; omega
      have hW := fun w hE => op_HeightA oi of ot ok (rs (-rvX h), t) (r0, rs (-rvX r1), r2) w hE ⟨n1, up s2, up s3, n2, up s5⟩
      have ev : vvB (r0, rs (-rvX r1), r2) = true := by unfold vvB; rw [b0, rvB_rs, b2]; rfl
      have ex : vvX (r0, rs (-rvX r1), r2) = ⟨(vvX (r0, r1, r2)).x, -(vvX (r0, r1, r2)).y, (vvX (r0, r1, r2)).z⟩ := by unfold vvX; simp only [rvX_rs]
      have ek : hokB (rs (-rvX h), t) (r0, rs (-rvX r1), r2) = true := by
        unfold hokB
        simp only [rvB_rs, rvX_rs, bt, ev, inR_neg hk.2, Bool.and_self]
      have eu : upX (rs (-rvX h), t) (r0, rs (-rvX r1), r2) = upX (h, t) (r0, r1, r2) := by
        unfold upX
        simp only [rvX_rs, ex, turn_mirror]
      rw [ek, hcode_yes ek, eu] at hW
      have F1 := fun w => r3_From r1 w (Nat.le_trans s4 (by decide))
      have F2 := fun w => r3_From h w (Nat.le_trans s1 (by decide))
      unfold FrP at F1 F2
      exact la31_mir_ok oi of ot ok r0 r1 r2 h t _ _ _ _ w hE rfl hS hT hU (fun w _ => op_minus _ r1 _ w F1 (y1.mono (by decide))) (fun w _ => op_minus _ h _ w F2 (z1.mono (by decide))) hW
  · exact la31_mir_no oi of ot ok r0 r1 r2 h t _ _ w hE (by
      by_cases k1 : h.size ≤ 40 ∧ t.size ≤ 40
      · have k2 : ¬ (r0.size ≤ 40 ∧ r1.size ≤ 40 ∧ r2.size ≤ 40) := fun q => hs ⟨q, k1⟩
        have : (decide (r0.size ≤ 40) && (decide (r1.size ≤ 40) && decide (r2.size ≤ 40))) = false := by
          rw [Bool.eq_false_iff]; intro q; rw [Bool.and_eq_true, Bool.and_eq_true, decide_eq_true_iff, decide_eq_true_iff, decide_eq_true_iff] at q; exact k2 q
        rw [this, Bool.false_and]
      · have : (decide (h.size ≤ 40) && decide (t.size ≤ 40)) = false := by
          rw [Bool.eq_false_iff]; intro q; rw [Bool.and_eq_true, decide_eq_true_iff, decide_eq_true_iff] at q; exact k1 q
        rw [this, Bool.and_false]) hS hT
end Go.Proofs.YthkkdepppjiaeaaGreatDoor
