/- A PART OF THE PROOF, JOINED OUT OF 5 TEXTS. -/
import Derived.Test.YtgbabmkclojgeaaGreatDoorPkVector
/- Walks of the program's package vector: cross. -/
namespace Go.Proofs.YtgbabmkclojgeaaGreatDoor
open Go.RowKit Go.Shelf Go.Sort

attribute [local go_sem] Oper.semAt_some

set_option maxRecDepth 100000 in
set_option maxHeartbeats 8000000 in
theorem ve_cross_aux (a0 a1 a2 b0 b1 b2 z0 z1 z2 m12 m21 m20 m02 m01 m10 : ByteArray) (w : World) (hE : Env w)
    (h12 : ∀ w, Env w → Calls Tryz.prog 138 #[.string a1, .string b2] w fun e w' => e = .returned (.string m12) ∧ Below w.heap.size w w')
    (h21 : ∀ w, Env w → Calls Tryz.prog 138 #[.string a2, .string b1] w fun e w' => e = .returned (.string m21) ∧ Below w.heap.size w w')
    (h20 : ∀ w, Env w → Calls Tryz.prog 138 #[.string a2, .string b0] w fun e w' => e = .returned (.string m20) ∧ Below w.heap.size w w')
    (h02 : ∀ w, Env w → Calls Tryz.prog 138 #[.string a0, .string b2] w fun e w' => e = .returned (.string m02) ∧ Below w.heap.size w w')
    (h01 : ∀ w, Env w → Calls Tryz.prog 138 #[.string a0, .string b1] w fun e w' => e = .returned (.string m01) ∧ Below w.heap.size w w')
    (h10 : ∀ w, Env w → Calls Tryz.prog 138 #[.string a1, .string b0] w fun e w' => e = .returned (.string m10) ∧ Below w.heap.size w w')
    (d0 : ∀ w, Env w → Calls Tryz.prog 76 #[.string m12, .string m21] w fun e w' => e = .returned (.string z0) ∧ Below w.heap.size w w')
    (d1 : ∀ w, Env w → Calls Tryz.prog 76 #[.string m20, .string m02] w fun e w' => e = .returned (.string z1) ∧ Below w.heap.size w w')
    (d2 : ∀ w, Env w → Calls Tryz.prog 76 #[.string m01, .string m10] w fun e w' => e = .returned (.string z2) ∧ Below w.heap.size w w') :
    Calls Tryz.prog 85 #[.agg #[.string a0, .string a1, .string a2], .agg #[.string b0, .string b1, .string b2]] w fun e w' => e = .returned (.agg #[.string z0, .string z1, .string z2]) ∧ Below w.heap.size w w' := by
  have M12 := Lib.hid h12
  have M21 := Lib.hid h21
  have M20 := Lib.hid h20
  have M02 := Lib.hid h02
  have M01 := Lib.hid h01
  have M10 := Lib.hid h10
  have D0 := Lib.hid d0
  have D1 := Lib.hid d1
  have D2 := Lib.hid d2
  have HE := Lib.hid hE
  clear hE h12 h21 h20 h02 h01 h10 d0 d1 d2
  go_enter Tryz.func85, Tryz.ntmps85
  go_wp2_with fail
  generalize hW : ((World.alloc w _).alloc _).alloc _ = W
  obtain ⟨hB, hsz, R2, R3, R4⟩ := A3 hW
  have R2 := Lib.hid R2
  have R3 := Lib.hid R3
  have R4 := Lib.hid R4
  clear hW hsz
  go_cut [5, 6] (fun x y wc => ∃ p q : Nat, x = .pointer (some ⟨p, 0, none⟩) ∧ y = .pointer (some ⟨q, 0, none⟩) ∧ Hid (wc.heap[p]? = some (.cells #[.string a0, .string a1, .string a2] 116 (0, 0))) ∧ Hid (wc.heap[q]? = some (.cells #[.string b0, .string b1, .string b2] 116 (0, 0))) ∧
      Hid (wc.heap[w.heap.size + 2]? = some (.cells #[.string ⟨#[]⟩, .string ⟨#[]⟩, .string ⟨#[]⟩] 28 (0, 0))) ∧ Below w.heap.size w wc)
  case first =>
    rw [show w.heap.size + 1 + 1 = w.heap.size + 2 from rfl]
    obtain ⟨R2c0, R2c1, R2c2, R2f0, R2f1, R2f2⟩ := row3 R2.out
    obtain ⟨R3c0, R3c1, R3c2, R3f0, R3f1, R3f2⟩ := row3 R3.out
    have lW := lt_of_row R4.out
    have KX := @ve_coordinates_exact
    first
    | go_region_held3 (fun w' => w'.cell? ⟨w.heap.size, 0, none⟩ = some (.string a0) ∧ w'.cell? ⟨w.heap.size, 1, none⟩ = some (.string a1) ∧ w'.cell? ⟨w.heap.size, 2, none⟩ = some (.string a2) ∧ w'.cell? ⟨w.heap.size + 1, 0, none⟩ = some (.string b0) ∧ w'.cell? ⟨w.heap.size + 1, 1, none⟩ = some (.string b1) ∧ w'.cell? ⟨w.heap.size + 1, 2, none⟩ = some (.string b2)) (first | ((repeat (with_reducible refine k6A ?_)); exact ⟨R2c0, R2c1, R2c2, R3c0, R3c1, R3c2⟩))
        (first | (go_at_call 88; (with_reducible refine (KX _ _ _ _).mono ?_); rintro e w' ⟨rfl, rfl⟩))
    | fail
    all_goals
      generalize hX : (((((World.alloc W _).alloc _).alloc _).alloc _).alloc _).alloc _ = X
      obtain ⟨hb6, hs6, r0, r1, r2, r3, r4, r5⟩ := A6 hX
      clear hX
      go_wp2_with fail
      go_meet
      refine ⟨_, _, rfl, rfl, Lib.hid ?_, Lib.hid ?_, Lib.hid (keep hb6.drew R4.out), (bstep hB hb6).drew⟩ <;> first | exact r1 | exact r2 | exact r3 | exact r4 | exact r5 | exact r0
  case rest =>
    obtain ⟨p, q, rfl, rfl, RP, RQ, R4, hB⟩ := hcut
    clear R2 R3
    have RP0 := RP
    have RQ0 := RQ
    have R40 := R4
    go_wp2_with fail
    generalize hW : World.alloc _ _ = V
    obtain ⟨hb, hsz, R7⟩ := A1 hW
    replace hB := bstep hB hb
    have RP := Lib.hid (keep hb RP.out)
    have RQ := Lib.hid (keep hb RQ.out)
    have R4 := Lib.hid (keep hb R4.out)
    clear hb
    have R7 := Lib.hid R7
    clear hW hsz
    have n1 : Hid (p ≠ wc.heap.size) := Lib.hid (lp RP0.out)
    have n2 : Hid (q ≠ wc.heap.size) := Lib.hid (lp RQ0.out)
    have n3 : Hid (w.heap.size + 2 ≠ wc.heap.size) := Lib.hid (lp R40.out)
    have n4 : Hid (w.heap.size ≤ wc.heap.size) := Lib.hid (by have := lp2 R40.out; omega)
    clear RP0 RQ0 R40
    go_loopw [17] (fun x wr => ∃ k : Int, x = .int .i64 k ∧ Hid (wr.heap[p]? = some (.cells #[.string a0, .string a1, .string a2] 116 (0, 0))) ∧ Hid (wr.heap[q]? = some (.cells #[.string b0, .string b1, .string b2] 116 (0, 0))) ∧
      Hid (wr.heap[w.heap.size + 2]? = some (.cells #[.string ⟨#[]⟩, .string ⟨#[]⟩, .string ⟨#[]⟩] 28 (0, 0))) ∧ Below w.heap.size w wr ∧
      ((k = 0 ∧ Hid (wr.heap[wc.heap.size]? = some (.cells #[.string ⟨#[]⟩, .string ⟨#[]⟩, .string ⟨#[]⟩] 116 (0, 0)))) ∨ (k = 1 ∧ Hid (wr.heap[wc.heap.size]? = some (.cells #[.string z0, .string ⟨#[]⟩, .string ⟨#[]⟩] 116 (0, 0)))) ∨
        (k = 2 ∧ Hid (wr.heap[wc.heap.size]? = some (.cells #[.string z0, .string z1, .string ⟨#[]⟩] 116 (0, 0)))) ∨ (k = 3 ∧ Hid (wr.heap[wc.heap.size]? = some (.cells #[.string z0, .string z1, .string z2] 116 (0, 0)))))) (fun x _ => (3 - intOf x).toNat)
    case atStart => exact ⟨0, rfl, RP, RQ, R4, hB, Or.inl ⟨rfl, R7⟩⟩
    case round =>
      clear RP RQ R4 R7 hB
      obtain ⟨k, rfl, RP, RQ, R4, hBr, hk⟩ := hrel
      rcases hk with ⟨rfl, R7⟩ | ⟨rfl, R7⟩ | ⟨rfl, R7⟩ | ⟨rfl, R7⟩
      · go_wp2_with fail
        obtain ⟨p0, p1, p2, p3, p4, p5⟩ := row3 RP.out
        obtain ⟨q0, q1, q2, q3, q4, q5⟩ := row3 RQ.out
        have hB0 := hBr.drew
        first
        | go_region_held3 (fun w' => w'.cell? ⟨p, 1, none⟩ = some (.string a1) ∧ w'.cell? ⟨p, 2, none⟩ = some (.string a2) ∧ w'.cell? ⟨q, 1, none⟩ = some (.string b1) ∧ w'.cell? ⟨q, 2, none⟩ = some (.string b2)) (first | exact ⟨p1, p2, q1, q2⟩ | exact ⟨by with_reducible assumption, by with_reducible assumption, by with_reducible assumption, by with_reducible assumption⟩ | exact ⟨cellS (Ne.symm n1.out) (by with_reducible assumption), cellS (Ne.symm n1.out) (by with_reducible assumption), cellS (Ne.symm n2.out) (by with_reducible assumption), cellS (Ne.symm n2.out) (by with_reducible assumption)⟩)
            (first
              | (go_at_call 138; (with_reducible refine (M12.out _ (HE.out.below hB0)).mono ?_); rintro e w2 ⟨rfl, hb⟩; have hB1 := bstep hB0 hb; have RP := Lib.hid (keep hb RP.out); have RQ := Lib.hid (keep hb RQ.out); have R4 := Lib.hid (keep hb R4.out); have R7 := Lib.hid (keep hb R7.out); obtain ⟨p0, p1, p2, p3, p4, p5⟩ := row3 RP.out; obtain ⟨q0, q1, q2, q3, q4, q5⟩ := row3 RQ.out; clear hb)
              | (go_at_call 138; (with_reducible refine (M21.out _ (HE.out.below hB1)).mono ?_); rintro e w3 ⟨rfl, hb⟩; have hB2 := bstep hB1 hb; have RP := Lib.hid (keep hb RP.out); have RQ := Lib.hid (keep hb RQ.out); have R4 := Lib.hid (keep hb R4.out); have R7 := Lib.hid (keep hb R7.out); obtain ⟨p0, p1, p2, p3, p4, p5⟩ := row3 RP.out; obtain ⟨q0, q1, q2, q3, q4, q5⟩ := row3 RQ.out; clear hb)
              | (go_at_call 76; (with_reducible refine (D0.out _ (HE.out.below hB2)).mono ?_); rintro e w4 ⟨rfl, hb⟩; have hB3 := bstep hB2 hb; have RP := Lib.hid (keep hb RP.out); have RQ := Lib.hid (keep hb RQ.out); have R4 := Lib.hid (keep hb R4.out); have R7 := Lib.hid (keep hb R7.out); obtain ⟨p0, p1, p2, p3, p4, p5⟩ := row3 RP.out; obtain ⟨q0, q1, q2, q3, q4, q5⟩ := row3 RQ.out; obtain ⟨o0, o1, o2, o3, o4, o5⟩ := row3 R7.out; clear hb))
        | fail
        go_wp2_with fail
        go_roundw
        case rel => exact ⟨_, rfl, Lib.hid (set_other n1.out RP.out), Lib.hid (set_other n2.out RQ.out), Lib.hid (set_other n3.out R4.out), set_below hB3 n4.out, Or.inr (Or.inl ⟨rfl, Lib.hid (set3_0 R7.out)⟩)⟩
        case measure => decide
      · go_wp2_with fail
        obtain ⟨p0, p1, p2, p3, p4, p5⟩ := row3 RP.out
        obtain ⟨q0, q1, q2, q3, q4, q5⟩ := row3 RQ.out
        have hB0 := hBr.drew
        first
        | go_region_held3 (fun w' => w'.cell? ⟨p, 2, none⟩ = some (.string a2) ∧ w'.cell? ⟨p, 0, none⟩ = some (.string a0) ∧ w'.cell? ⟨q, 2, none⟩ = some (.string b2) ∧ w'.cell? ⟨q, 0, none⟩ = some (.string b0)) (first | exact ⟨p2, p0, q2, q0⟩ | exact ⟨by with_reducible assumption, by with_reducible assumption, by with_reducible assumption, by with_reducible assumption⟩ | exact ⟨cellS (Ne.symm n1.out) (by with_reducible assumption), cellS (Ne.symm n1.out) (by with_reducible assumption), cellS (Ne.symm n2.out) (by with_reducible assumption), cellS (Ne.symm n2.out) (by with_reducible assumption)⟩)
            (first
              | (go_at_call 138; (with_reducible refine (M20.out _ (HE.out.below hB0)).mono ?_); rintro e w2 ⟨rfl, hb⟩; have hB1 := bstep hB0 hb; have RP := Lib.hid (keep hb RP.out); have RQ := Lib.hid (keep hb RQ.out); have R4 := Lib.hid (keep hb R4.out); have R7 := Lib.hid (keep hb R7.out); obtain ⟨p0, p1, p2, p3, p4, p5⟩ := row3 RP.out; obtain ⟨q0, q1, q2, q3, q4, q5⟩ := row3 RQ.out; clear hb)
              | (go_at_call 138; (with_reducible refine (M02.out _ (HE.out.below hB1)).mono ?_); rintro e w3 ⟨rfl, hb⟩; have hB2 := bstep hB1 hb; have RP := Lib.hid (keep hb RP.out); have RQ := Lib.hid (keep hb RQ.out); have R4 := Lib.hid (keep hb R4.out); have R7 := Lib.hid (keep hb R7.out); obtain ⟨p0, p1, p2, p3, p4, p5⟩ := row3 RP.out; obtain ⟨q0, q1, q2, q3, q4, q5⟩ := row3 RQ.out; clear hb)
              | (go_at_call 76; (with_reducible refine (D1.out _ (HE.out.below hB2)).mono ?_); rintro e w4 ⟨rfl, hb⟩; have hB3 := bstep hB2 hb; have RP := Lib.hid (keep hb RP.out); have RQ := Lib.hid (keep hb RQ.out); have R4 := Lib.hid (keep hb R4.out); have R7 := Lib.hid (keep hb R7.out); obtain ⟨p0, p1, p2, p3, p4, p5⟩ := row3 RP.out; obtain ⟨q0, q1, q2, q3, q4, q5⟩ := row3 RQ.out; obtain ⟨o0, o1, o2, o3, o4, o5⟩ := row3 R7.out; clear hb))
        | fail
        go_wp2_with fail
        go_roundw
        case rel => exact ⟨_, rfl, Lib.hid (set_other n1.out RP.out), Lib.hid (set_other n2.out RQ.out), Lib.hid (set_other n3.out R4.out), set_below hB3 n4.out, Or.inr (Or.inr (Or.inl ⟨rfl, Lib.hid (set3_1 R7.out)⟩))⟩
        case measure => decide
      · go_wp2_with fail
        obtain ⟨p0, p1, p2, p3, p4, p5⟩ := row3 RP.out
        obtain ⟨q0, q1, q2, q3, q4, q5⟩ := row3 RQ.out
        have hB0 := hBr.drew
        first
        | go_region_held3 (fun w' => w'.cell? ⟨p, 0, none⟩ = some (.string a0) ∧ w'.cell? ⟨p, 1, none⟩ = some (.string a1) ∧ w'.cell? ⟨q, 0, none⟩ = some (.string b0) ∧ w'.cell? ⟨q, 1, none⟩ = some (.string b1)) (first | exact ⟨p0, p1, q0, q1⟩ | exact ⟨by with_reducible assumption, by with_reducible assumption, by with_reducible assumption, by with_reducible assumption⟩ | exact ⟨cellS (Ne.symm n1.out) (by with_reducible assumption), cellS (Ne.symm n1.out) (by with_reducible assumption), cellS (Ne.symm n2.out) (by with_reducible assumption), cellS (Ne.symm n2.out) (by with_reducible assumption)⟩)
            (first
              | (go_at_call 138; (with_reducible refine (M01.out _ (HE.out.below hB0)).mono ?_); rintro e w2 ⟨rfl, hb⟩; have hB1 := bstep hB0 hb; have RP := Lib.hid (keep hb RP.out); have RQ := Lib.hid (keep hb RQ.out); have R4 := Lib.hid (keep hb R4.out); have R7 := Lib.hid (keep hb R7.out); obtain ⟨p0, p1, p2, p3, p4, p5⟩ := row3 RP.out; obtain ⟨q0, q1, q2, q3, q4, q5⟩ := row3 RQ.out; clear hb)
              | (go_at_call 138; (with_reducible refine (M10.out _ (HE.out.below hB1)).mono ?_); rintro e w3 ⟨rfl, hb⟩; have hB2 := bstep hB1 hb; have RP := Lib.hid (keep hb RP.out); have RQ := Lib.hid (keep hb RQ.out); have R4 := Lib.hid (keep hb R4.out); have R7 := Lib.hid (keep hb R7.out); obtain ⟨p0, p1, p2, p3, p4, p5⟩ := row3 RP.out; obtain ⟨q0, q1, q2, q3, q4, q5⟩ := row3 RQ.out; clear hb)
              | (go_at_call 76; (with_reducible refine (D2.out _ (HE.out.below hB2)).mono ?_); rintro e w4 ⟨rfl, hb⟩; have hB3 := bstep hB2 hb; have RP := Lib.hid (keep hb RP.out); have RQ := Lib.hid (keep hb RQ.out); have R4 := Lib.hid (keep hb R4.out); have R7 := Lib.hid (keep hb R7.out); obtain ⟨p0, p1, p2, p3, p4, p5⟩ := row3 RP.out; obtain ⟨q0, q1, q2, q3, q4, q5⟩ := row3 RQ.out; obtain ⟨o0, o1, o2, o3, o4, o5⟩ := row3 R7.out; clear hb))
        | fail
        go_wp2_with fail
        go_roundw
        case rel => exact ⟨_, rfl, Lib.hid (set_other n1.out RP.out), Lib.hid (set_other n2.out RQ.out), Lib.hid (set_other n3.out R4.out), set_below hB3 n4.out, Or.inr (Or.inr (Or.inr ⟨rfl, Lib.hid (set3_2 R7.out)⟩))⟩
        case measure => decide
      · obtain ⟨o0, o1, o2, o3, o4, o5⟩ := row3 R7.out
        go_wp2_with fail
        clear o0 o1 o2 o3 o4 o5
        refine (ve_of z0 z1 z2 _).mono ?_
        rintro e w2 ⟨rfl, hb⟩
        replace hBr := bstep hBr hb
        have R4 := Lib.hid (keep hb R4.out)
        clear hb
        obtain ⟨o0, o1, o2, o3, o4, o5⟩ := row3 R4.out
        go_wp2_with fail
        exact bodyPost_ret (res_c rfl vec_row rfl (store3 R4.out _ _ _) rfl) rfl ⟨rfl, store3_below hBr (by omega) _ _ _⟩

theorem ve_cross (a b : V3) (w : World) (hE : Env w) (ha : SzV 500000 a) (hb : SzV 500000 b) :
    Calls Tryz.prog 85 #[vV a, vV b] w fun e w' => e = .returned (vV (crossV a b)) ∧ Below w.heap.size w w' := by
  obtain ⟨x1, x2, x3⟩ := ha
  obtain ⟨y1, y2, y3⟩ := hb
  have big : ∀ {x y : Rat}, Sz 500000 x → Sz 500000 y → Sz 5000000 (x * y) := fun h k => (sz_mul h k).mono (by decide)
  have up : ∀ {x : Rat}, Sz 500000 x → Sz 5000000 x := fun h => h.mono (by decide)
  exact ve_cross_aux _ _ _ _ _ _ _ _ _ _ _ _ _ _ _ w hE (fun w hE => ve_mul _ _ w hE (up x2) (up y3)) (fun w hE => ve_mul _ _ w hE (up x3) (up y2)) (fun w hE => ve_mul _ _ w hE (up x3) (up y1)) (fun w hE => ve_mul _ _ w hE (up x1) (up y3)) (fun w hE => ve_mul _ _ w hE (up x1) (up y2)) (fun w hE => ve_mul _ _ w hE (up x2) (up y1))
    (fun w hE => ve_sub _ _ w hE (big x2 y3) (big x3 y2)) (fun w hE => ve_sub _ _ w hE (big x3 y1) (big x1 y3)) (fun w hE => ve_sub _ _ w hE (big x1 y2) (big x2 y1))
end Go.Proofs.YtgbabmkclojgeaaGreatDoor

/- Walks of the program's package vector: apply, Add, Sub, Cross, Scale, Dot, Det at valid vectors. -/
namespace Go.Proofs.YtgbabmkclojgeaaGreatDoor
open Go.RowKit Go.Shelf Go.Sort

attribute [local go_sem] Oper.semAt_some

theorem vecsAt2 {W : World} {N : Nat} {t : TypeId} {a0 a1 a2 b0 b1 b2 : ByteArray} (h : W.heap[N]? = some (.cells #[.string a0, .string a1, .string a2, .string b0, .string b1, .string b2] t (0, 0))) :
    VecsAt W N 0 2 (fun i => if i = 0 then (a0, a1, a2) else (b0, b1, b2)) := by
  intro i hi
  match i, hi with
  | 0, _ => exact ⟨cell_of_row W _ 0 _ _ _ h, cell_of_row W _ 1 _ _ _ h, cell_of_row W _ 2 _ _ _ h⟩
  | 1, _ => exact ⟨cell_of_row W _ 3 _ _ _ h, cell_of_row W _ 4 _ _ _ h, cell_of_row W _ 5 _ _ _ h⟩
theorem vecsAt3 {W : World} {N : Nat} {t : TypeId} {a0 a1 a2 b0 b1 b2 c0 c1 c2 : ByteArray} (h : W.heap[N]? = some (.cells #[.string a0, .string a1, .string a2, .string b0, .string b1, .string b2, .string c0, .string c1, .string c2] t (0, 0))) :
    VecsAt W N 0 3 (fun i => if i = 0 then (a0, a1, a2) else if i = 1 then (b0, b1, b2) else (c0, c1, c2)) := by
  intro i hi
  match i, hi with
  | 0, _ => exact ⟨cell_of_row W _ 0 _ _ _ h, cell_of_row W _ 1 _ _ _ h, cell_of_row W _ 2 _ _ _ h⟩
  | 1, _ => exact ⟨cell_of_row W _ 3 _ _ _ h, cell_of_row W _ 4 _ _ _ h, cell_of_row W _ 5 _ _ _ h⟩
  | 2, _ => exact ⟨cell_of_row W _ 6 _ _ _ h, cell_of_row W _ 7 _ _ _ h, cell_of_row W _ 8 _ _ _ h⟩

/-- The three texts are of at most ten million bytes. -/
def ShV (s : ByteArray × ByteArray × ByteArray) : Prop := s.1.size ≤ 10000000 ∧ s.2.1.size ≤ 10000000 ∧ s.2.2.size ≤ 10000000
noncomputable def chk2 (s t : ByteArray × ByteArray × ByteArray) : Int := if vvB s = true ∧ vvB t = true then 0 else 1
noncomputable def chk3 (s t u : ByteArray × ByteArray × ByteArray) : Int := if vvB s = true ∧ vvB t = true ∧ vvB u = true then 0 else 1

theorem ve_check2 {a0 a1 a2 b0 b1 b2 : ByteArray} (ha : ShV (a0, a1, a2)) (hb : ShV (b0, b1, b2)) {N : Nat} {t : TypeId} (W : World) (hE : Env W) (h : W.heap[N]? = some (.cells #[.string a0, .string a1, .string a2, .string b0, .string b1, .string b2] t (0, 0))) :
    Calls Tryz.prog 82 #[.slice (some ⟨N, 0, none⟩) 2 2] W fun e w' => e = .returned (.int .i64 (chk2 (a0, a1, a2) (b0, b1, b2))) ∧ Below W.heap.size W w' := by
  refine ve_check N 0 2 2 _ _ W hE (by decide) (vecsAt2 h) ?_ ?_ ?_
  · intro i hi
    match i, hi with
    | 0, _ => exact ha
    | 1, _ => exact hb
  · intro hv
    unfold chk2; rw [if_pos ⟨hv 0 (by decide), hv 1 (by decide)⟩]
  · rintro ⟨i, hi, hv⟩
    unfold chk2; rw [if_neg]
    rintro ⟨h1, h2⟩
    match i, hi with
    | 0, _ => rw [if_pos rfl] at hv; rw [hv] at h1; cases h1
    | 1, _ => rw [if_neg (by decide)] at hv; rw [hv] at h2; cases h2
theorem ve_check3 {a0 a1 a2 b0 b1 b2 c0 c1 c2 : ByteArray} (ha : ShV (a0, a1, a2)) (hb : ShV (b0, b1, b2)) (hc : ShV (c0, c1, c2)) {N : Nat} {t : TypeId} (W : World) (hE : Env W) (h : W.heap[N]? = some (.cells #[.string a0, .string a1, .string a2, .string b0, .string b1, .string b2, .string c0, .string c1, .string c2] t (0, 0))) :
    Calls Tryz.prog 82 #[.slice (some ⟨N, 0, none⟩) 3 3] W fun e w' => e = .returned (.int .i64 (chk3 (a0, a1, a2) (b0, b1, b2) (c0, c1, c2))) ∧ Below W.heap.size W w' := by
  refine ve_check N 0 3 3 _ _ W hE (by decide) (vecsAt3 h) ?_ ?_ ?_
  · intro i hi
    match i, hi with
    | 0, _ => exact ha
    | 1, _ => exact hb
    | 2, _ => exact hc
  · intro hv
    unfold chk3; rw [if_pos ⟨hv 0 (by decide), hv 1 (by decide), hv 2 (by decide)⟩]
  · rintro ⟨i, hi, hv⟩
    unfold chk3; rw [if_neg]
    rintro ⟨h1, h2, h3⟩
    match i, hi with
    | 0, _ => rw [if_pos rfl] at hv; rw [hv] at h1; cases h1
    | 1, _ => rw [if_neg (by decide), if_pos rfl] at hv; rw [hv] at h2; cases h2
    | 2, _ => rw [if_neg (by decide), if_neg (by decide)] at hv; rw [hv] at h3; cases h3

theorem rs_size (x : Rat) : (rs x).size ≤ nl x.num.natAbs + nl x.den + 2 := by
  have s1 := iS_size x.num
  have s2 := nS_size x.den
  by_cases h : x.den = 1
  · rw [rs_one h]; omega
  · rw [rs_frac h, ByteArray.size_append, ByteArray.size_append]
    have : (⟨#[47]⟩ : ByteArray).size = 1 := rfl
    omega
theorem sh_of {k : Nat} {a : V3} (h : SzV k a) (hk : k ≤ 4000000) : ShV (rs a.x, rs a.y, rs a.z) := by
  obtain ⟨⟨h1, h2⟩, ⟨h3, h4⟩, ⟨h5, h6⟩⟩ := h
  have e1 := rs_size a.x
  have e2 := rs_size a.y
  have e3 := rs_size a.z
  exact ⟨by show (rs a.x).size ≤ _; omega, by show (rs a.y).size ≤ _; omega, by show (rs a.z).size ≤ _; omega⟩
theorem vvB_rs (a : V3) : vvB (rs a.x, rs a.y, rs a.z) = true := by
  unfold vvB; rw [rvB_rs, rvB_rs, rvB_rs]; rfl
theorem chk2_rs (a b : V3) : chk2 (rs a.x, rs a.y, rs a.z) (rs b.x, rs b.y, rs b.z) = 0 := by
  unfold chk2; rw [if_pos ⟨vvB_rs a, vvB_rs b⟩]
theorem chk3_rs (a b c : V3) : chk3 (rs a.x, rs a.y, rs a.z) (rs b.x, rs b.y, rs b.z) (rs c.x, rs c.y, rs c.z) = 0 := by
  unfold chk3; rw [if_pos ⟨vvB_rs a, vvB_rs b, vvB_rs c⟩]

set_option maxRecDepth 100000 in
set_option maxHeartbeats 4000000 in
theorem ve_apply_ok (g : Nat) (a0 a1 a2 b0 b1 b2 z0 z1 z2 : ByteArray) (w : World) (hE : Env w) (ha : ShV (a0, a1, a2)) (hb : ShV (b0, b1, b2)) (hc : chk2 (a0, a1, a2) (b0, b1, b2) = 0)
    (eg : ∀ args w, (callFunc g args).run Tryz.prog w = .ok (.enter g args) w)
    (hop : ∀ w, Env w → Calls Tryz.prog g #[.agg #[.string a0, .string a1, .string a2], .agg #[.string b0, .string b1, .string b2]] w fun e w' => e = .returned (.agg #[.string z0, .string z1, .string z2]) ∧ Below w.heap.size w w') :
    Calls Tryz.prog 68 #[fnV g, .agg #[.string a0, .string a1, .string a2], .agg #[.string b0, .string b1, .string b2]] w fun e w' => e = .returned (.tuple #[.agg #[.string z0, .string z1, .string z2], .int .i64 0]) ∧ Below w.heap.size w w' := by
  have HC := Lib.hid (fun N t W hE h => ve_check2 (N := N) (t := t) ha hb W hE h)
  rw [hc] at HC
  have HO := Lib.hid hop
  have HE := Lib.hid hE
  clear hE ha hb hc hop
  go_enter Tryz.func68, Tryz.ntmps68
  go_wp2_with fail
  generalize hW : (((World.alloc w _).alloc _).alloc _).alloc _ = W
  obtain ⟨hB, hsz, R4, R5, R6, RS⟩ := A4 hW
  have R4 := Lib.hid R4
  have R5 := Lib.hid R5
  have R6 := Lib.hid R6
  have RS := Lib.hid RS
  clear hW hsz
  refine (HC.out _ _ _ (HE.out.below hB) RS.out).mono ?_
  rintro e w1 ⟨rfl, hb⟩
  replace hB := bstep hB hb
  have R4 := Lib.hid (keep hb R4.out)
  have R5 := Lib.hid (keep hb R5.out)
  have R6 := Lib.hid (keep hb R6.out)
  clear hb
  obtain ⟨R4c0, R4c1, R4c2, R4f0, R4f1, R4f2⟩ := row3 R4.out
  obtain ⟨R5c0, R5c1, R5c2, R5f0, R5f1, R5f2⟩ := row3 R5.out
  go_wp2_with fail
  clear R4c0 R4c1 R4c2 R4f0 R4f1 R4f2
  clear R5c0 R5c1 R5c2 R5f0 R5f1 R5f2
  refine (HO.out _ (HE.out.below hB)).mono ?_
  rintro e w2 ⟨rfl, hb⟩
  replace hB := bstep hB hb
  have R6 := Lib.hid (keep hb R6.out)
  clear hb
  obtain ⟨R6c0, R6c1, R6c2, R6f0, R6f1, R6f2⟩ := row3 R6.out
  go_wp2_with fail
  exact bodyPost_ret (res_ct rfl vec_row rfl (store3 R6.out _ _ _) rfl) rfl ⟨rfl, store3_below hB (by omega) _ _ _⟩
end Go.Proofs.YtgbabmkclojgeaaGreatDoor

/- Walks of the program's package vector: Add, Sub, Cross, Scale, Dot, Det at valid vectors; height. -/
namespace Go.Proofs.YtgbabmkclojgeaaGreatDoor
open Go.RowKit Go.Shelf Go.Sort

attribute [local go_sem] Oper.semAt_some

set_option maxRecDepth 100000 in
set_option maxHeartbeats 4000000 in
theorem ve_Add1 (a b : V3) (w : World) (hE : Env w) (ha : SzV 5000000 a) (hb : SzV 5000000 b) :
    Calls Tryz.prog 69 #[vV a, vV b] w fun e w' => e = .returned (vV (addV a b)) ∧ Below w.heap.size w w' := by
  have HP := Lib.hid (fun w hE => zip_add a b w hE ha hb)
  have HE := Lib.hid hE
  clear hE ha hb
  generalize addV a b = z at *
  unfold vV at *
  go_enter Tryz.func69, Tryz.ntmps69
  go_wp2_with fail
  generalize hW : ((World.alloc w _).alloc _).alloc _ = W
  obtain ⟨hB, hsz, R2, R3, R4⟩ := A3 hW
  have R2 := Lib.hid R2
  have R3 := Lib.hid R3
  have R4 := Lib.hid R4
  clear hW hsz
  refine (HP.out _ (HE.out.below hB)).mono ?_
  rintro e w1 ⟨rfl, hb⟩
  replace hB := bstep hB hb
  have R4 := Lib.hid (keep hb R4.out)
  clear hb
  obtain ⟨R4c0, R4c1, R4c2, R4f0, R4f1, R4f2⟩ := row3 R4.out
  go_wp2_with fail
  exact bodyPost_ret (res_c rfl vec_row rfl (store3 R4.out _ _ _) rfl) rfl ⟨rfl, store3_below hB (by omega) _ _ _⟩
set_option maxRecDepth 100000 in
set_option maxHeartbeats 4000000 in
theorem ve_Sub1 (a b : V3) (w : World) (hE : Env w) (ha : SzV 5000000 a) (hb : SzV 5000000 b) :
    Calls Tryz.prog 75 #[vV a, vV b] w fun e w' => e = .returned (vV (subV a b)) ∧ Below w.heap.size w w' := by
  have HP := Lib.hid (fun w hE => zip_sub a b w hE ha hb)
  have HE := Lib.hid hE
  clear hE ha hb
  generalize subV a b = z at *
  unfold vV at *
  go_enter Tryz.func75, Tryz.ntmps75
  go_wp2_with fail
  generalize hW : ((World.alloc w _).alloc _).alloc _ = W
  obtain ⟨hB, hsz, R2, R3, R4⟩ := A3 hW
  have R2 := Lib.hid R2
  have R3 := Lib.hid R3
  have R4 := Lib.hid R4
  clear hW hsz
  refine (HP.out _ (HE.out.below hB)).mono ?_
  rintro e w1 ⟨rfl, hb⟩
  replace hB := bstep hB hb
  have R4 := Lib.hid (keep hb R4.out)
  clear hb
  obtain ⟨R4c0, R4c1, R4c2, R4f0, R4f1, R4f2⟩ := row3 R4.out
  go_wp2_with fail
  exact bodyPost_ret (res_c rfl vec_row rfl (store3 R4.out _ _ _) rfl) rfl ⟨rfl, store3_below hB (by omega) _ _ _⟩

set_option maxRecDepth 100000 in
set_option maxHeartbeats 4000000 in
theorem ve_Add (a b : V3) (w : World) (hE : Env w) (ha : SzV 500000 a) (hb : SzV 500000 b) :
    Calls Tryz.prog 20 #[vV a, vV b] w fun e w' => e = .returned (.tuple #[vV (addV a b), .int .i64 0]) ∧ Below w.heap.size w w' := by
  have HP := Lib.hid (fun w hE => ve_apply_ok 69 _ _ _ _ _ _ _ _ _ w hE (sh_of ha (by decide)) (sh_of hb (by decide)) (chk2_rs a b) (enters_of Tryz.func69 (by kernel_rfl) rfl) (fun w hE => ve_Add1 a b w hE (ha.mono (by decide)) (hb.mono (by decide))))
  have HE := Lib.hid hE
  clear hE ha hb
  generalize addV a b = z at *
  unfold vV at *
  go_enter Tryz.func20, Tryz.ntmps20
  go_wp2_with fail
  generalize hW : ((World.alloc w _).alloc _).alloc _ = W
  obtain ⟨hB, hsz, R2, R3, R4⟩ := A3 hW
  have R2 := Lib.hid R2
  have R3 := Lib.hid R3
  have R4 := Lib.hid R4
  clear hW hsz
  refine (HP.out _ (HE.out.below hB)).mono ?_
  rintro e w1 ⟨rfl, hb⟩
  replace hB := bstep hB hb
  have R4 := Lib.hid (keep hb R4.out)
  clear hb
  obtain ⟨R4c0, R4c1, R4c2, R4f0, R4f1, R4f2⟩ := row3 R4.out
  go_wp2_with fail
  exact bodyPost_ret (res_ct rfl vec_row rfl (store3 R4.out _ _ _) rfl) rfl ⟨rfl, store3_below hB (by omega) _ _ _⟩
set_option maxRecDepth 100000 in
set_option maxHeartbeats 4000000 in
theorem ve_Sub (a b : V3) (w : World) (hE : Env w) (ha : SzV 500000 a) (hb : SzV 500000 b) :
    Calls Tryz.prog 22 #[vV a, vV b] w fun e w' => e = .returned (.tuple #[vV (subV a b), .int .i64 0]) ∧ Below w.heap.size w w' := by
  have HP := Lib.hid (fun w hE => ve_apply_ok 75 _ _ _ _ _ _ _ _ _ w hE (sh_of ha (by decide)) (sh_of hb (by decide)) (chk2_rs a b) (enters_of Tryz.func75 (by kernel_rfl) rfl) (fun w hE => ve_Sub1 a b w hE (ha.mono (by decide)) (hb.mono (by decide))))
  have HE := Lib.hid hE
  clear hE ha hb
  generalize subV a b = z at *
  unfold vV at *
  go_enter Tryz.func22, Tryz.ntmps22
  go_wp2_with fail
  generalize hW : ((World.alloc w _).alloc _).alloc _ = W
  obtain ⟨hB, hsz, R2, R3, R4⟩ := A3 hW
  have R2 := Lib.hid R2
  have R3 := Lib.hid R3
  have R4 := Lib.hid R4
  clear hW hsz
  refine (HP.out _ (HE.out.below hB)).mono ?_
  rintro e w1 ⟨rfl, hb⟩
  replace hB := bstep hB hb
  have R4 := Lib.hid (keep hb R4.out)
  clear hb
  obtain ⟨R4c0, R4c1, R4c2, R4f0, R4f1, R4f2⟩ := row3 R4.out
  go_wp2_with fail
  exact bodyPost_ret (res_ct rfl vec_row rfl (store3 R4.out _ _ _) rfl) rfl ⟨rfl, store3_below hB (by omega) _ _ _⟩
set_option maxRecDepth 100000 in
set_option maxHeartbeats 4000000 in
theorem ve_Cross (a b : V3) (w : World) (hE : Env w) (ha : SzV 500000 a) (hb : SzV 500000 b) :
    Calls Tryz.prog 28 #[vV a, vV b] w fun e w' => e = .returned (.tuple #[vV (crossV a b), .int .i64 0]) ∧ Below w.heap.size w w' := by
  have HP := Lib.hid (fun w hE => ve_apply_ok 85 _ _ _ _ _ _ _ _ _ w hE (sh_of ha (by decide)) (sh_of hb (by decide)) (chk2_rs a b) (enters_of Tryz.func85 (by kernel_rfl) rfl) (fun w hE => ve_cross a b w hE ha hb))
  have HE := Lib.hid hE
  clear hE ha hb
  generalize crossV a b = z at *
  unfold vV at *
  go_enter Tryz.func28, Tryz.ntmps28
  go_wp2_with fail
  generalize hW : ((World.alloc w _).alloc _).alloc _ = W
  obtain ⟨hB, hsz, R2, R3, R4⟩ := A3 hW
  have R2 := Lib.hid R2
  have R3 := Lib.hid R3
  have R4 := Lib.hid R4
  clear hW hsz
  refine (HP.out _ (HE.out.below hB)).mono ?_
  rintro e w1 ⟨rfl, hb⟩
  replace hB := bstep hB hb
  have R4 := Lib.hid (keep hb R4.out)
  clear hb
  obtain ⟨R4c0, R4c1, R4c2, R4f0, R4f1, R4f2⟩ := row3 R4.out
  go_wp2_with fail
  exact bodyPost_ret (res_ct rfl vec_row rfl (store3 R4.out _ _ _) rfl) rfl ⟨rfl, store3_below hB (by omega) _ _ _⟩

set_option maxRecDepth 100000 in
set_option maxHeartbeats 4000000 in
theorem ve_Scale (a : V3) (t : Rat) (w : World) (hE : Env w) (ha : SzV 500000 a) (ht : Sz 500000 t) :
    Calls Tryz.prog 24 #[vV a, .string (rs t)] w fun e w' => e = .returned (.tuple #[vV (scaleV a t), .int .i64 0]) ∧ Below w.heap.size w w' := by
  have hsh := sh_of ha (by decide)
  have HV := fun w hE => ve_Valid (rs a.x) (rs a.y) (rs a.z) w hE hsh.1 hsh.2.1 hsh.2.2
  have HR := fun w hE => ra_Valid (rs t) w hE (by have := rs_size t; have := ht.1; have := ht.2; omega)
  rw [rvB_rs, rvB_rs, rvB_rs] at HV
  rw [rvB_rs] at HR
  have HV := Lib.hid HV
  have HR := Lib.hid HR
  have HP := Lib.hid (fun w hE => ve_scale a t w hE (ha.mono (by decide)) (ht.mono (by decide)))
  have HE := Lib.hid hE
  clear hE ha ht hsh
  generalize scaleV a t = z at *
  unfold vV at *
  simp only [Bool.and_self] at HV
  go_enter Tryz.func24, Tryz.ntmps24
  go_wp2_with fail
  generalize hW : (World.alloc w _).alloc _ = W
  obtain ⟨hB, hsz, R2, R4⟩ := A2 hW
  have R2 := Lib.hid R2
  have R4 := Lib.hid R4
  clear hW hsz
  refine (HV.out _ (HE.out.below hB)).mono ?_
  rintro e w1 ⟨rfl, hb⟩
  replace hB := bstep hB hb
  have R2 := Lib.hid (keep hb R2.out)
  have R4 := Lib.hid (keep hb R4.out)
  clear hb
  go_wp2_with fail
  refine (HR.out _ (HE.out.below hB)).mono ?_
  rintro e w2 ⟨rfl, hb⟩
  replace hB := bstep hB hb
  have R2 := Lib.hid (keep hb R2.out)
  have R4 := Lib.hid (keep hb R4.out)
  clear hb
  obtain ⟨R2c0, R2c1, R2c2, R2f0, R2f1, R2f2⟩ := row3 R2.out
  go_wp2_with fail
  clear R2c0 R2c1 R2c2 R2f0 R2f1 R2f2
  refine (HP.out _ (HE.out.below hB)).mono ?_
  rintro e w3 ⟨rfl, hb⟩
  replace hB := bstep hB hb
  have R4 := Lib.hid (keep hb R4.out)
  clear hb
  obtain ⟨R4c0, R4c1, R4c2, R4f0, R4f1, R4f2⟩ := row3 R4.out
  go_wp2_with fail
  exact bodyPost_ret (res_ct rfl vec_row rfl (store3 R4.out _ _ _) rfl) rfl ⟨rfl, store3_below hB (by omega) _ _ _⟩

set_option maxRecDepth 100000 in
set_option maxHeartbeats 4000000 in
theorem ve_Dot (a b : V3) (w : World) (hE : Env w) (ha : SzV 500000 a) (hb : SzV 500000 b) :
    Calls Tryz.prog 26 #[vV a, vV b] w fun e w' => e = .returned (.tuple #[.string (rs (dotV a b)), .int .i64 0]) ∧ Below w.heap.size w w' := by
  have HC := Lib.hid (fun N t W hE h => ve_check2 (N := N) (t := t) (sh_of ha (by decide)) (sh_of hb (by decide)) W hE h)
  rw [chk2_rs] at HC
  have HP := Lib.hid (fun w hE => ve_dot a b w hE ha hb)
  have HE := Lib.hid hE
  clear hE ha hb
  generalize rs (dotV a b) = z at *
  unfold vV at *
  go_enter Tryz.func26, Tryz.ntmps26
  go_wp2_with fail
  generalize hW : ((World.alloc w _).alloc _).alloc _ = W
  obtain ⟨hB, hsz, R2, R3, RS⟩ := A3 hW
  have R2 := Lib.hid R2
  have R3 := Lib.hid R3
  have RS := Lib.hid RS
  clear hW hsz
  refine (HC.out _ _ _ (HE.out.below hB) RS.out).mono ?_
  rintro e w1 ⟨rfl, hb⟩
  replace hB := bstep hB hb
  have R2 := Lib.hid (keep hb R2.out)
  have R3 := Lib.hid (keep hb R3.out)
  clear hb
  obtain ⟨R2c0, R2c1, R2c2, R2f0, R2f1, R2f2⟩ := row3 R2.out
  obtain ⟨R3c0, R3c1, R3c2, R3f0, R3f1, R3f2⟩ := row3 R3.out
  go_wp2_with fail
  clear R2c0 R2c1 R2c2 R2f0 R2f1 R2f2
  clear R3c0 R3c1 R3c2 R3f0 R3f1 R3f2
  refine (HP.out _ (HE.out.below hB)).mono ?_
  rintro e w2 ⟨rfl, hb⟩
  replace hB := bstep hB hb
  clear hb
  go_wp2_with fail
  exact bodyPost_ret (results_tmp2 rfl _ _ _) rfl ⟨rfl, hB⟩

theorem szV_cross {k : Nat} {a b : V3} (ha : SzV k a) (hb : SzV k b) : SzV (8 * k) (crossV a b) := by
  obtain ⟨x1, x2, x3⟩ := ha
  obtain ⟨y1, y2, y3⟩ := hb
  exact ⟨(sz_sub (sz_mul x2 y3) (sz_mul x3 y2)).mono (by omega), (sz_sub (sz_mul x3 y1) (sz_mul x1 y3)).mono (by omega), (sz_sub (sz_mul x1 y2) (sz_mul x2 y1)).mono (by omega)⟩
def detV (a b c : V3) : Rat := dotV a (crossV b c)

set_option maxRecDepth 100000 in
set_option maxHeartbeats 4000000 in
theorem ve_Det (a b c : V3) (w : World) (hE : Env w) (ha : SzV 50000 a) (hb : SzV 50000 b) (hc : SzV 50000 c) :
    Calls Tryz.prog 30 #[vV a, vV b, vV c] w fun e w' => e = .returned (.tuple #[.string (rs (detV a b c)), .int .i64 0]) ∧ Below w.heap.size w w' := by
  have HC := Lib.hid (fun N t W hE h => ve_check3 (N := N) (t := t) (sh_of ha (by decide)) (sh_of hb (by decide)) (sh_of hc (by decide)) W hE h)
  rw [chk3_rs] at HC
  have HP := Lib.hid (fun w hE => ve_cross b c w hE (hb.mono (by decide)) (hc.mono (by decide)))
  have HQ := Lib.hid (fun w hE => ve_dot a (crossV b c) w hE (ha.mono (by decide)) ((szV_cross hb hc).mono (by decide)))
  have HE := Lib.hid hE
  clear hE ha hb hc
  unfold detV
  generalize rs (dotV a (crossV b c)) = z at *
  unfold vV at *
  generalize rs (crossV b c).x = d0 at *
  generalize rs (crossV b c).y = d1 at *
  generalize rs (crossV b c).z = d2 at *
  generalize rs a.x = a0 at *
  generalize rs a.y = a1 at *
  generalize rs a.z = a2 at *
  generalize rs b.x = b0 at *
  generalize rs b.y = b1 at *
  generalize rs b.z = b2 at *
  generalize rs c.x = c0 at *
  generalize rs c.y = c1 at *
  generalize rs c.z = c2 at *
  clear a b c
  go_enter Tryz.func30, Tryz.ntmps30
  go_wp2_with fail
  generalize hW : (((World.alloc w _).alloc _).alloc _).alloc _ = W
  obtain ⟨hB, hsz, R3, R4, R5, RS⟩ := A4 hW
  have R3 := Lib.hid R3
  have R4 := Lib.hid R4
  have R5 := Lib.hid R5
  have RS := Lib.hid RS
  clear hW hsz
  refine (HC.out _ _ _ (HE.out.below hB) RS.out).mono ?_
  rintro e w1 ⟨rfl, hb⟩
  replace hB := bstep hB hb
  have R3 := Lib.hid (keep hb R3.out)
  have R4 := Lib.hid (keep hb R4.out)
  have R5 := Lib.hid (keep hb R5.out)
  clear hb
  go_wp2_with fail
  have h0 : ∀ d os, (grow (redrawn w1 d) os).cell? ⟨w.heap.size, 0, none⟩ = some (.string a0) := fun d os => cell_regrown (row3 R3.out).1 d os
  have h1 : ∀ d os, (grow (redrawn w1 d) os).cell? ⟨w.heap.size, 1, none⟩ = some (.string a1) := fun d os => cell_regrown (row3 R3.out).2.1 d os
  have h2 : ∀ d os, (grow (redrawn w1 d) os).cell? ⟨w.heap.size, 2, none⟩ = some (.string a2) := fun d os => cell_regrown (row3 R3.out).2.2.1 d os
  have h3 : ∀ d os, (grow (redrawn w1 d) os).cell? ⟨w.heap.size + 1, 0, none⟩ = some (.string b0) := fun d os => cell_regrown (row3 R4.out).1 d os
  have h4 : ∀ d os, (grow (redrawn w1 d) os).cell? ⟨w.heap.size + 1, 1, none⟩ = some (.string b1) := fun d os => cell_regrown (row3 R4.out).2.1 d os
  have h5 : ∀ d os, (grow (redrawn w1 d) os).cell? ⟨w.heap.size + 1, 2, none⟩ = some (.string b2) := fun d os => cell_regrown (row3 R4.out).2.2.1 d os
  have h6 : ∀ d os, (grow (redrawn w1 d) os).cell? ⟨w.heap.size + 2, 0, none⟩ = some (.string c0) := fun d os => cell_regrown (row3 R5.out).1 d os
  have h7 : ∀ d os, (grow (redrawn w1 d) os).cell? ⟨w.heap.size + 2, 1, none⟩ = some (.string c1) := fun d os => cell_regrown (row3 R5.out).2.1 d os
  have h8 : ∀ d os, (grow (redrawn w1 d) os).cell? ⟨w.heap.size + 2, 2, none⟩ = some (.string c2) := fun d os => cell_regrown (row3 R5.out).2.2.1 d os
  have hE := HE.out.below hB
  have S1 := Lib.hid (fun d os => Calls.regrown_of (HP.out (grow (redrawn w1 d) os) (hE.below (below_regrown w1 d os))))
  have S2 := Lib.hid (fun d os => Calls.regrown_of (HQ.out (grow (redrawn w1 d) os) (hE.below (below_regrown w1 d os))))
  clear hE HP HQ
  refine wp_region_quiet_below (by kernel_rfl) (by kernel_rfl) ?_
  repeat (first | quiet_step (with_reducible exact S1.out _ _) | quiet_step (with_reducible exact S2.out _ _))
  refine wpQuiet_nil ?_
  intro _ hw'
  obtain ⟨⟨dq, osq⟩, hw''⟩ := hw'
  subst hw''
  have hb := below_regrown w1 dq osq
  clear h0 h1 h2 h3 h4 h5 h6 h7 h8 S1 S2
  generalize grow (redrawn w1 dq) osq = W2 at *
  go_wp2_with fail
  exact bodyPost_ret (results_tmp2 rfl _ _ _) rfl ⟨rfl, bstep hB hb⟩
end Go.Proofs.YtgbabmkclojgeaaGreatDoor

/- Walks of the program's package vector: plane, height, Side. -/
namespace Go.Proofs.YtgbabmkclojgeaaGreatDoor
open Go.RowKit Go.Shelf Go.Sort

attribute [local go_sem] Oper.semAt_some

theorem vec_guard : Tryz.prog.eqGuardType Tryz.prog.depth 28 = false := by kernel_rfl
theorem vec_held : Tryz.prog.stoodInHeld 28 = false := by kernel_rfl
theorem vec_eqn (n : Nat) (w : World) (a b c a' b' c' : ByteArray) : (Op.equalIn (n + 2) 28 (.agg #[.string a, .string b, .string c]) (.agg #[.string a', .string b', .string c'])).run Tryz.prog w = .ok ((a.toList == a'.toList) && ((b.toList == b'.toList) && (c.toList == c'.toList))) w := by
  have hf : Tryz.prog.underlying 28 = some (.struct (Tryz.prog.fieldsOf 28)) := by
    unfold Program.fieldsOf
    rw [Tryz.underlying28]
  refine (run_equalIn_agg w (n + 1) _ _ _ hf vec_held).trans ?_
  unfold Program.fieldsOf
  rw [Tryz.underlying28]
  simp [Op.eqFields, go_sem]
  by_cases h1 : a.toList = a'.toList
  · by_cases h2 : b.toList = b'.toList
    · by_cases h3 : c.toList = c'.toList
      · simp [h1, h2, h3]
      · simp [h1, h2, h3]
    · simp [h1, h2]
  · simp [h1]
theorem vec_eq (w : World) (a b c a' b' c' : ByteArray) : (Op.equalIn 10000 28 (.agg #[.string a, .string b, .string c]) (.agg #[.string a', .string b', .string c'])).run Tryz.prog w = .ok ((a.toList == a'.toList) && ((b.toList == b'.toList) && (c.toList == c'.toList))) w := vec_eqn 9998 w a b c a' b' c'
attribute [local go_sem] vec_guard vec_eq

def planeR (v1 v2 z : Bool) : Int := if (v1 && v2 && !z) = true then 0 else 1

set_option maxRecDepth 100000 in
set_option maxHeartbeats 4000000 in
theorem ve_plane (a b c d : ByteArray) (v1 v2 e0 e1 e2 : Bool) (w : World) (hE : Env w)
    (h1 : ∀ w, Env w → Calls Tryz.prog 32 #[.agg #[.string a, .string b, .string c]] w fun e w' => e = .returned (.bool v1) ∧ Below w.heap.size w w')
    (h2 : ∀ w, Env w → Calls Tryz.prog 78 #[.string d] w fun e w' => e = .returned (.bool v2) ∧ Below w.heap.size w w')
    (z0 : (a.toList == [48]) = e0) (z1 : (b.toList == [48]) = e1) (z2 : (c.toList == [48]) = e2) :
    Calls Tryz.prog 89 #[.agg #[.string a, .string b, .string c, .string d]] w fun e w' => e = .returned (.int .i64 (planeR v1 v2 (e0 && (e1 && e2)))) ∧ Below w.heap.size w w' := by
  have HV := Lib.hid h1
  have HR := Lib.hid h2
  have HE := Lib.hid hE
  have HO := Lib.hid (fun w => ve_of ⟨#[48]⟩ ⟨#[48]⟩ ⟨#[48]⟩ w)
  obtain ⟨r, hr⟩ : ∃ r, r = planeR v1 v2 (e0 && (e1 && e2)) := ⟨_, rfl⟩
  rw [← hr]
  have HRR := Lib.hid hr
  clear hE h1 h2 hr
  go_enter Tryz.func89, Tryz.ntmps89
  go_wp2_with fail
  generalize hW : World.alloc w _ = W
  obtain ⟨hB, hsz, R1⟩ := A1 hW
  have R1 := Lib.hid R1
  clear hW hsz
  have c0 : ∀ d os, (grow (redrawn W d) os).cell? ⟨w.heap.size, 0, none⟩ = some (.string a) := fun d os => cell_regrown (row4 R1.out).1 d os
  have c1 : ∀ d os, (grow (redrawn W d) os).cell? ⟨w.heap.size, 1, none⟩ = some (.string b) := fun d os => cell_regrown (row4 R1.out).2.1 d os
  have c2 : ∀ d os, (grow (redrawn W d) os).cell? ⟨w.heap.size, 2, none⟩ = some (.string c) := fun d os => cell_regrown (row4 R1.out).2.2.1 d os
  have c3 : ∀ e os, (grow (redrawn W e) os).cell? ⟨w.heap.size, 3, none⟩ = some (.string d) := fun d os => cell_regrown (row4 R1.out).2.2.2.1 d os
  have hE := HE.out.below hB
  have S1 := Lib.hid (fun d os => Calls.regrown_of (HV.out (grow (redrawn W d) os) (hE.below (below_regrown W d os))))
  have S2 := Lib.hid (fun d os => Calls.regrown_of (HR.out (grow (redrawn W d) os) (hE.below (below_regrown W d os))))
  have S3 := Lib.hid (fun d os => Calls.regrown_of (HO.out (grow (redrawn W d) os)))
  clear hE HV HR HO
  cases v1 <;> cases v2 <;> cases e0 <;> cases e1 <;> cases e2
  all_goals
    refine wp_region_quiet_below (by kernel_rfl) (by kernel_rfl) ?_
    repeat (first | quiet_step (with_reducible exact S1.out _ _) | quiet_step (with_reducible exact S2.out _ _) | quiet_step (with_reducible exact S3.out _ _))
    refine wpQuiet_nil ?_
    intro _ hw'
    obtain ⟨⟨dq, osq⟩, hw''⟩ := hw'
    subst hw''
    have hb := below_regrown W dq osq
    clear c0 c1 c2 c3 S1 S2 S3
    generalize grow (redrawn W dq) osq = W2 at *
    go_wp2_with fail
    go_ret
    rw [HRR.out]
    exact ⟨rfl, bstep hB hb⟩
end Go.Proofs.YtgbabmkclojgeaaGreatDoor

/- Walks of the program's package vector: height, Side. -/
namespace Go.Proofs.YtgbabmkclojgeaaGreatDoor
open Go.RowKit Go.Shelf Go.Sort

attribute [local go_sem] Oper.semAt_some vec_guard vec_eq

/-- A plane as the program keeps it. -/
def pV (n : V3) (c : Rat) : Value := .agg #[.string (rs n.x), .string (rs n.y), .string (rs n.z), .string (rs c)]
def zero3 (n : V3) : Bool := decide (n.x = 0) && (decide (n.y = 0) && decide (n.z = 0))
theorem rs_zero (x : Rat) : ((rs x).toList == [48]) = decide (x = 0) := by
  have := rs_eq x 0
  rwa [rs_0, show (⟨#[48]⟩ : ByteArray).toList = [48] from by rw [ByteArray.toList_eq]] at this

theorem ve_plane_rs (n : V3) (c : Rat) (w : World) (hE : Env w) (hn : SzV 500000 n) (hc : Sz 500000 c) :
    Calls Tryz.prog 89 #[pV n c] w fun e w' => e = .returned (.int .i64 (if zero3 n = true then 1 else 0)) ∧ Below w.heap.size w w' := by
  have hsh := sh_of hn (by decide)
  have h := ve_plane (rs n.x) (rs n.y) (rs n.z) (rs c) true true _ _ _ w hE
    (fun w hE => by have := ve_Valid (rs n.x) (rs n.y) (rs n.z) w hE hsh.1 hsh.2.1 hsh.2.2; rwa [rvB_rs, rvB_rs, rvB_rs] at this)
    (fun w hE => by have := ra_Valid (rs c) w hE (by have := rs_size c; have := hc.1; have := hc.2; omega); rwa [rvB_rs] at this)
    (rs_zero _) (rs_zero _) (rs_zero _)
  have e : planeR true true (decide (n.x = 0) && (decide (n.y = 0) && decide (n.z = 0))) = if zero3 n = true then 1 else 0 := by
    unfold planeR zero3
    cases decide (n.x = 0) && (decide (n.y = 0) && decide (n.z = 0)) <;> rfl
  rw [e] at h
  exact h

theorem sz_dot {k : Nat} {a b : V3} (ha : SzV k a) (hb : SzV k b) : Sz (20 * k) (dotV a b) := by
  unfold dotV
  exact (sz_add (sz_add (sz_mul ha.1 hb.1) (sz_mul ha.2.1 hb.2.1)) (sz_mul ha.2.2 hb.2.2)).mono (by omega)
def hgt (n : V3) (c : Rat) (a : V3) : Rat := dotV n a - c
theorem sz_hgt {k : Nat} {n a : V3} {c : Rat} (hn : SzV k n) (hc : Sz k c) (ha : SzV k a) : Sz (42 * k) (hgt n c a) := by
  unfold hgt
  exact (sz_sub (sz_dot hn ha) hc).mono (by omega)

set_option maxRecDepth 100000 in
set_option maxHeartbeats 4000000 in
theorem ve_height (n : V3) (c : Rat) (a : V3) (w : World) (hE : Env w) (hn : SzV 50000 n) (hc : Sz 50000 c) (ha : SzV 50000 a) :
    Calls Tryz.prog 91 #[pV n c, vV a] w fun e w' => e = .returned (.string (rs (hgt n c a))) ∧ Below w.heap.size w w' := by
  have HP := Lib.hid (fun w hE => ve_dot n a w hE (hn.mono (by decide)) (ha.mono (by decide)))
  have HQ := Lib.hid (fun w hE => ve_sub (dotV n a) c w hE ((sz_dot hn ha).mono (by decide)) (hc.mono (by decide)))
  have HE := Lib.hid hE
  clear hE hn hc ha
  unfold pV
  rw [show dotV n a - c = hgt n c a from rfl] at HQ
  generalize rs (hgt n c a) = z at *
  generalize rs (dotV n a) = y at *
  unfold vV at *
  generalize rs n.x = n0 at *
  generalize rs n.y = n1 at *
  generalize rs n.z = n2 at *
  generalize rs c = d at *
  generalize rs a.x = a0 at *
  generalize rs a.y = a1 at *
  generalize rs a.z = a2 at *
  clear n c a
  go_enter Tryz.func91, Tryz.ntmps91
  go_wp2_with fail
  generalize hW : (World.alloc w _).alloc _ = W
  obtain ⟨hB, hsz, R2, R3⟩ := A2 hW
  have R2 := Lib.hid R2
  have R3 := Lib.hid R3
  clear hW hsz
  have c0 : ∀ d os, (grow (redrawn W d) os).cell? ⟨w.heap.size, 0, none⟩ = some (.string n0) := fun d os => cell_regrown (row4 R2.out).1 d os
  have c1 : ∀ d os, (grow (redrawn W d) os).cell? ⟨w.heap.size, 1, none⟩ = some (.string n1) := fun d os => cell_regrown (row4 R2.out).2.1 d os
  have c2 : ∀ d os, (grow (redrawn W d) os).cell? ⟨w.heap.size, 2, none⟩ = some (.string n2) := fun d os => cell_regrown (row4 R2.out).2.2.1 d os
  have c3 : ∀ e os, (grow (redrawn W e) os).cell? ⟨w.heap.size, 3, none⟩ = some (.string d) := fun d os => cell_regrown (row4 R2.out).2.2.2.1 d os
  have c4 : ∀ d os, (grow (redrawn W d) os).cell? ⟨w.heap.size + 1, 0, none⟩ = some (.string a0) := fun d os => cell_regrown (row3 R3.out).1 d os
  have c5 : ∀ d os, (grow (redrawn W d) os).cell? ⟨w.heap.size + 1, 1, none⟩ = some (.string a1) := fun d os => cell_regrown (row3 R3.out).2.1 d os
  have c6 : ∀ d os, (grow (redrawn W d) os).cell? ⟨w.heap.size + 1, 2, none⟩ = some (.string a2) := fun d os => cell_regrown (row3 R3.out).2.2.1 d os
  have hE := HE.out.below hB
  have S1 := Lib.hid (fun d os => Calls.regrown_of (HP.out (grow (redrawn W d) os) (hE.below (below_regrown W d os))))
  have S2 := Lib.hid (fun d os => Calls.regrown_of (HQ.out (grow (redrawn W d) os) (hE.below (below_regrown W d os))))
  clear hE HP HQ
  refine wp_region_quiet_below (by kernel_rfl) (by kernel_rfl) ?_
  repeat (first | quiet_step (with_reducible exact S1.out _ _) | quiet_step (with_reducible exact S2.out _ _))
  refine wpQuiet_nil ?_
  intro _ hw'
  obtain ⟨⟨dq, osq⟩, hw''⟩ := hw'
  subst hw''
  have hb := below_regrown W dq osq
  clear c0 c1 c2 c3 c4 c5 c6 S1 S2
  generalize grow (redrawn W dq) osq = W2 at *
  go_wp2_with fail
  go_ret
  exact ⟨rfl, bstep hB hb⟩

set_option maxRecDepth 100000 in
set_option maxHeartbeats 4000000 in
theorem ve_Side (n : V3) (c : Rat) (a : V3) (w : World) (hE : Env w) (hn : SzV 50000 n) (hc : Sz 50000 c) (ha : SzV 50000 a) (h0 : zero3 n = false) :
    Calls Tryz.prog 34 #[pV n c, vV a] w fun e w' => e = .returned (.tuple #[.int .i64 (cmpQ (hgt n c a) 0), .int .i64 0]) ∧ Below w.heap.size w w' := by
  have HL := fun w hE => ve_plane_rs n c w hE (hn.mono (by decide)) (hc.mono (by decide))
  rw [h0] at HL
  simp only [Bool.false_eq_true, if_false] at HL
  have HL := Lib.hid HL
  have hsh := sh_of ha (by decide)
  have HV := fun w hE => ve_Valid (rs a.x) (rs a.y) (rs a.z) w hE hsh.1 hsh.2.1 hsh.2.2
  rw [rvB_rs, rvB_rs, rvB_rs] at HV
  simp only [Bool.and_self] at HV
  have HV := Lib.hid HV
  have HH := Lib.hid (fun w hE => ve_height n c a w hE hn hc ha)
  have HS := Lib.hid (fun w hE => ve_sign (hgt n c a) w hE ((sz_hgt hn hc ha).mono (by decide)))
  have HE := Lib.hid hE
  clear hE hn hc ha h0 hsh
  unfold pV vV at *
  generalize cmpQ (hgt n c a) 0 = z at *
  generalize rs (hgt n c a) = y at *
  go_enter Tryz.func34, Tryz.ntmps34
  go_wp2_with fail
  generalize hW : (World.alloc w _).alloc _ = W
  obtain ⟨hB, hsz, R2, R3⟩ := A2 hW
  have R2 := Lib.hid R2
  have R3 := Lib.hid R3
  clear hW hsz
  refine (HL.out _ (HE.out.below hB)).mono ?_
  rintro e w1 ⟨rfl, hb⟩
  replace hB := bstep hB hb
  have R2 := Lib.hid (keep hb R2.out)
  have R3 := Lib.hid (keep hb R3.out)
  clear hb
  obtain ⟨R3c0, R3c1, R3c2, R3f0, R3f1, R3f2⟩ := row3 R3.out
  go_wp2_with fail
  clear R3c0 R3c1 R3c2 R3f0 R3f1 R3f2
  refine (HV.out _ (HE.out.below hB)).mono ?_
  rintro e w2 ⟨rfl, hb⟩
  replace hB := bstep hB hb
  have R2 := Lib.hid (keep hb R2.out)
  have R3 := Lib.hid (keep hb R3.out)
  clear hb
  obtain ⟨R2c0, R2c1, R2c2, R2c3, R2f0, R2f1, R2f2, R2f3⟩ := row4 R2.out
  obtain ⟨R3c0, R3c1, R3c2, R3f0, R3f1, R3f2⟩ := row3 R3.out
  go_wp2_with fail
  clear R2c0 R2c1 R2c2 R2c3 R2f0 R2f1 R2f2 R2f3
  clear R3c0 R3c1 R3c2 R3f0 R3f1 R3f2
  refine (HH.out _ (HE.out.below hB)).mono ?_
  rintro e w3 ⟨rfl, hb⟩
  replace hB := bstep hB hb
  clear hb
  go_wp2_with fail
  refine (HS.out _ (HE.out.below hB)).mono ?_
  rintro e w4 ⟨rfl, hb⟩
  replace hB := bstep hB hb
  clear hb
  go_wp2_with fail
  exact bodyPost_ret (results_tmp2 rfl _ _ _) rfl ⟨rfl, hB⟩
end Go.Proofs.YtgbabmkclojgeaaGreatDoor
