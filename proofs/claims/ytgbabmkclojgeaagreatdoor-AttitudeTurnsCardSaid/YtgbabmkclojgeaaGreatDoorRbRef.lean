/- A PART OF THE PROOF, JOINED OUT OF 2 TEXTS. -/
import Derived.Test.YtgbabmkclojgeaaGreatDoorRaFrameOf
import Derived.Test.YtgbabmkclojgeaaGreatDoorPmVector
/- The reference of layer 16: Check, Of, Water, Turn, Back, Mirror. -/
namespace Go.Proofs.YtgbabmkclojgeaaGreatDoor
open Go.RowKit Go.Shelf Go.Sort

attribute [local go_sem] Oper.semAt_some
attribute [local go_sem ↓ high] storeAt_fr loadAt_fr
attribute [local go_sem high] run_storeAt_fr run_storeAt_frN


set_option maxRecDepth 100000 in
set_option maxHeartbeats 4000000 in
theorem r16_Check_err (h t : ByteArray) (cc : Int) (w : World)
    (hf : ∀ w, Calls Tryz.prog 117 #[.agg #[.string h, .string t]] w fun e w' => e = .returned (.tuple #[.agg #[.bool false, .slice none 0 0, .slice none 0 0, .bool false, .slice none 0 0, .slice none 0 0, .bool false, .slice none 0 0, .slice none 0 0, .bool false, .slice none 0 0, .slice none 0 0, .bool false, .slice none 0 0, .slice none 0 0, .bool false, .slice none 0 0, .slice none 0 0, .bool false, .slice none 0 0, .slice none 0 0, .bool false, .slice none 0 0, .slice none 0 0, .bool false, .slice none 0 0, .slice none 0 0], .int .i64 cc]) ∧ Below w.heap.size w w') :
    Calls Tryz.prog 56 #[.agg #[.string h, .string t]] w fun e w' => e = .returned (.int .i64 cc) ∧ Below w.heap.size w w' := by
  have HF := Lib.hid hf
  clear hf
  go_enter Tryz.func56, Tryz.ntmps56
  go_wp2_with fail
  generalize hW : World.alloc w _ = W
  obtain ⟨hB, hsz, R1⟩ := A1 hW
  have R1 := Lib.hid R1
  clear hW hsz
  obtain ⟨c0, c1, f0, f1⟩ := row2 R1.out
  go_wp2_with fail
  clear c0 c1 f0 f1
  refine (HF.out _).mono ?_
  rintro e w1 ⟨rfl, hb⟩
  replace hB := bstep hB hb
  clear hb
  go_wp2_with fail
  generalize hW : World.alloc _ _ = V
  obtain ⟨hb, hsz, R3⟩ := A1 hW
  replace hB := bstep hB hb
  clear hb
  have R3 := Lib.hid R3
  clear hW hsz
  go_ret
  exact ⟨rfl, hB⟩


set_option maxRecDepth 100000 in
set_option maxHeartbeats 4000000 in
theorem r16_Check_ok (h t : ByteArray) (b0 b1 b2 b3 b4 b5 b6 b7 b8 : Bool) (A S U : V3) (w : World)
    (hf : ∀ w, Calls Tryz.prog 117 #[.agg #[.string h, .string t]] w fun e w' => ∃ fA fS fU : VS, e = .returned (.tuple #[.agg #[.bool b0, .slice fA.x.p.A fA.x.p.n fA.x.p.c, .slice fA.x.d.A fA.x.d.n fA.x.d.c, .bool b1, .slice fA.y.p.A fA.y.p.n fA.y.p.c, .slice fA.y.d.A fA.y.d.n fA.y.d.c, .bool b2, .slice fA.z.p.A fA.z.p.n fA.z.p.c, .slice fA.z.d.A fA.z.d.n fA.z.d.c, .bool b3, .slice fS.x.p.A fS.x.p.n fS.x.p.c, .slice fS.x.d.A fS.x.d.n fS.x.d.c, .bool b4, .slice fS.y.p.A fS.y.p.n fS.y.p.c, .slice fS.y.d.A fS.y.d.n fS.y.d.c, .bool b5, .slice fS.z.p.A fS.z.p.n fS.z.p.c, .slice fS.z.d.A fS.z.d.n fS.z.d.c, .bool b6, .slice fU.x.p.A fU.x.p.n fU.x.p.c, .slice fU.x.d.A fU.x.d.n fU.x.d.c, .bool b7, .slice fU.y.p.A fU.y.p.n fU.y.p.c, .slice fU.y.d.A fU.y.d.n fU.y.d.c, .bool b8, .slice fU.z.p.A fU.z.p.n fU.z.p.c, .slice fU.z.d.A fU.z.d.n fU.z.d.c], .int .i64 0]) ∧ RV w' fA A ∧ RV w' fS S ∧ RV w' fU U ∧ Below w.heap.size w w') :
    Calls Tryz.prog 56 #[.agg #[.string h, .string t]] w fun e w' => e = .returned (.int .i64 0) ∧ Below w.heap.size w w' := by
  have HF := Lib.hid hf
  clear hf
  go_enter Tryz.func56, Tryz.ntmps56
  go_wp2_with fail
  generalize hW : World.alloc w _ = W
  obtain ⟨hB, hsz, R1⟩ := A1 hW
  have R1 := Lib.hid R1
  clear hW hsz
  obtain ⟨c0, c1, f0, f1⟩ := row2 R1.out
  go_wp2_with fail
  clear c0 c1 f0 f1
  refine (HF.out _).mono ?_
  rintro e w1 ⟨fA, fS, fU, rfl, hA, hS, hU, hb⟩
  replace hB := bstep hB hb
  have KA := Lib.hid hA
  have KS := Lib.hid hS
  have KU := Lib.hid hU
  clear hb
  go_wp2_with fail
  generalize hW : World.alloc _ _ = V
  obtain ⟨hb, hsz, R3⟩ := A1 hW
  replace hB := bstep hB hb
  clear hb
  have R3 := Lib.hid R3
  clear hW hsz
  go_ret
  exact ⟨rfl, hB⟩


set_option maxRecDepth 100000 in
set_option maxHeartbeats 4000000 in
theorem r16_Of_err (h t : ByteArray) (cc : Int) (w : World) (hc1 : (cc != 0) = true)
    (hf : ∀ w, Calls Tryz.prog 117 #[.agg #[.string h, .string t]] w fun e w' => e = .returned (.tuple #[.agg #[.bool false, .slice none 0 0, .slice none 0 0, .bool false, .slice none 0 0, .slice none 0 0, .bool false, .slice none 0 0, .slice none 0 0, .bool false, .slice none 0 0, .slice none 0 0, .bool false, .slice none 0 0, .slice none 0 0, .bool false, .slice none 0 0, .slice none 0 0, .bool false, .slice none 0 0, .slice none 0 0, .bool false, .slice none 0 0, .slice none 0 0, .bool false, .slice none 0 0, .slice none 0 0], .int .i64 cc]) ∧ Below w.heap.size w w') :
    Calls Tryz.prog 51 #[.agg #[.string h, .string t]] w fun e w' => e = .returned (.tuple #[.agg #[.string ⟨#[]⟩, .string ⟨#[]⟩, .string ⟨#[]⟩, .string ⟨#[]⟩, .string ⟨#[]⟩, .string ⟨#[]⟩, .string ⟨#[]⟩, .string ⟨#[]⟩, .string ⟨#[]⟩], .int .i64 cc]) ∧ Below w.heap.size w w' := by
  have HF := Lib.hid hf
  clear hf
  go_enter Tryz.func51, Tryz.ntmps51
  go_wp2_with fail
  generalize hW : (World.alloc w _).alloc _ = W
  obtain ⟨hB, hsz, R1, R2⟩ := A2 hW
  have R1 := Lib.hid R1
  have R2 := Lib.hid R2
  clear hW hsz
  obtain ⟨c0, c1, f0, f1⟩ := row2 R1.out
  go_wp2_with fail
  clear c0 c1 f0 f1
  refine (HF.out _).mono ?_
  rintro e w1 ⟨rfl, hb⟩
  replace hB := bstep hB hb
  have R2 := Lib.hid (keep hb R2.out)
  clear hb
  go_upto_region 2 with fail
  generalize hW : World.alloc _ _ = V
  obtain ⟨hb, hsz, R3⟩ := A1 hW
  replace hB := bstep hB hb
  have R2 := Lib.hid (keep hb R2.out)
  clear hb
  have R3 := Lib.hid R3
  clear hW hsz
  obtain ⟨R2c0, R2c1, R2c2, R2c3, R2c4, R2c5, R2c6, R2c7, R2c8, R2f0, R2f1, R2f2, R2f3, R2f4, R2f5, R2f6, R2f7, R2f8⟩ := row9 R2.out
  go_wp2_with fail
  exact bodyPost_ret (res_ct rfl fr_row rfl (store9 R2.out _ _ _ _ _ _ _ _ _) rfl) rfl ⟨rfl, store9_below hB (by omega) _ _ _ _ _ _ _ _ _⟩


set_option maxRecDepth 100000 in
set_option maxHeartbeats 4000000 in
theorem r16_Of_ok (h t z0 z1 z2 z3 z4 z5 z6 z7 z8 : ByteArray) (b0 b1 b2 b3 b4 b5 b6 b7 b8 : Bool) (A S U : V3) (w : World)
    (hf : ∀ w, Calls Tryz.prog 117 #[.agg #[.string h, .string t]] w fun e w' => ∃ fA fS fU : VS, e = .returned (.tuple #[.agg #[.bool b0, .slice fA.x.p.A fA.x.p.n fA.x.p.c, .slice fA.x.d.A fA.x.d.n fA.x.d.c, .bool b1, .slice fA.y.p.A fA.y.p.n fA.y.p.c, .slice fA.y.d.A fA.y.d.n fA.y.d.c, .bool b2, .slice fA.z.p.A fA.z.p.n fA.z.p.c, .slice fA.z.d.A fA.z.d.n fA.z.d.c, .bool b3, .slice fS.x.p.A fS.x.p.n fS.x.p.c, .slice fS.x.d.A fS.x.d.n fS.x.d.c, .bool b4, .slice fS.y.p.A fS.y.p.n fS.y.p.c, .slice fS.y.d.A fS.y.d.n fS.y.d.c, .bool b5, .slice fS.z.p.A fS.z.p.n fS.z.p.c, .slice fS.z.d.A fS.z.d.n fS.z.d.c, .bool b6, .slice fU.x.p.A fU.x.p.n fU.x.p.c, .slice fU.x.d.A fU.x.d.n fU.x.d.c, .bool b7, .slice fU.y.p.A fU.y.p.n fU.y.p.c, .slice fU.y.d.A fU.y.d.n fU.y.d.c, .bool b8, .slice fU.z.p.A fU.z.p.n fU.z.p.c, .slice fU.z.d.A fU.z.d.n fU.z.d.c], .int .i64 0]) ∧ RV w' fA A ∧ RV w' fS S ∧ RV w' fU U ∧ Below w.heap.size w w')
    (h1 : ∀ w s, RV w s A → Calls Tryz.prog 118 #[.agg #[.bool b0, .slice s.x.p.A s.x.p.n s.x.p.c, .slice s.x.d.A s.x.d.n s.x.d.c, .bool b1, .slice s.y.p.A s.y.p.n s.y.p.c, .slice s.y.d.A s.y.d.n s.y.d.c, .bool b2, .slice s.z.p.A s.z.p.n s.z.p.c, .slice s.z.d.A s.z.d.n s.z.d.c]] w fun e w' => e = .returned (.agg #[.string z0, .string z1, .string z2]) ∧ Below w.heap.size w w')
    (h2 : ∀ w s, RV w s S → Calls Tryz.prog 118 #[.agg #[.bool b3, .slice s.x.p.A s.x.p.n s.x.p.c, .slice s.x.d.A s.x.d.n s.x.d.c, .bool b4, .slice s.y.p.A s.y.p.n s.y.p.c, .slice s.y.d.A s.y.d.n s.y.d.c, .bool b5, .slice s.z.p.A s.z.p.n s.z.p.c, .slice s.z.d.A s.z.d.n s.z.d.c]] w fun e w' => e = .returned (.agg #[.string z3, .string z4, .string z5]) ∧ Below w.heap.size w w')
    (h3 : ∀ w s, RV w s U → Calls Tryz.prog 118 #[.agg #[.bool b6, .slice s.x.p.A s.x.p.n s.x.p.c, .slice s.x.d.A s.x.d.n s.x.d.c, .bool b7, .slice s.y.p.A s.y.p.n s.y.p.c, .slice s.y.d.A s.y.d.n s.y.d.c, .bool b8, .slice s.z.p.A s.z.p.n s.z.p.c, .slice s.z.d.A s.z.d.n s.z.d.c]] w fun e w' => e = .returned (.agg #[.string z6, .string z7, .string z8]) ∧ Below w.heap.size w w') :
    Calls Tryz.prog 51 #[.agg #[.string h, .string t]] w fun e w' => e = .returned (.tuple #[.agg #[.string z0, .string z1, .string z2, .string z3, .string z4, .string z5, .string z6, .string z7, .string z8], .int .i64 0]) ∧ Below w.heap.size w w' := by
  have HF := Lib.hid hf
  have H1 := Lib.hid h1
  have H2 := Lib.hid h2
  have H3 := Lib.hid h3
  clear hf h1 h2 h3
  go_enter Tryz.func51, Tryz.ntmps51
  go_wp2_with fail
  generalize hW : (World.alloc w _).alloc _ = W
  obtain ⟨hB, hsz, R1, R2⟩ := A2 hW
  have R1 := Lib.hid R1
  have R2 := Lib.hid R2
  clear hW hsz
  obtain ⟨c0, c1, f0, f1⟩ := row2 R1.out
  go_wp2_with fail
  clear c0 c1 f0 f1
  refine (HF.out _).mono ?_
  rintro e w1 ⟨fA, fS, fU, rfl, hA, hS, hU, hb⟩
  replace hB := bstep hB hb
  have KA := Lib.hid hA
  have KS := Lib.hid hS
  have KU := Lib.hid hU
  have R2 := Lib.hid (keep hb R2.out)
  clear hb
  go_upto_region 2 with fail
  have NE := Lib.hid (show w1.heap.size ≠ w.heap.size + 1 by have := lt_of_row R2.out; omega)
  generalize hW : World.alloc _ _ = V
  obtain ⟨hb, hsz, R3⟩ := A1 hW
  replace hB := bstep hB hb
  have R2 := Lib.hid (keep hb R2.out)
  have KA := Lib.hid (KA.out.below hb)
  have KS := Lib.hid (KS.out.below hb)
  have KU := Lib.hid (KU.out.below hb)
  clear hb
  have R3 := Lib.hid R3
  clear hW hsz
  go_upto_region 4 with fail
  have H1 := Lib.hid (fun W (hb : Below V.heap.size V W) => H1.out W fA (KA.out.below hb))
  have H2 := Lib.hid (fun W (hb : Below V.heap.size V W) => H2.out W fS (KS.out.below hb))
  have H3 := Lib.hid (fun W (hb : Below V.heap.size V W) => H3.out W fU (KU.out.below hb))
  clear KA KS KU HF
  have LR3 := fun (w' : World) (h : Ap (w.heap.size + 1) (w.heap.size + 1) V w') => rowc27 (h.row R3.out NE.out NE.out)
  have hvr := Below.refl V.heap.size V
  have hv0 := hvr.drew
  first
  | go_region_held3 (fun w' => Ap (w.heap.size + 1) (w.heap.size + 1) V w') (first | (with_reducible assumption) | (with_reducible exact Ap.refl _ _ _) | ((repeat (first | with_reducible assumption | with_reducible exact Ap.refl _ _ _ | with_reducible refine Ap.drew ?_ | with_reducible refine Ap.alloc ?_ | with_reducible refine Ap.set1 ?_ | with_reducible refine Ap.set2 ?_ | with_reducible refine Ap.setN (by first | with_reducible assumption | with_reducible exact Nat.le_refl _ | with_reducible exact Nat.le_add_right _ _ | with_reducible exact Nat.le_trans (by assumption) (Nat.le_add_right _ _)) ?_)); done))
      (first
        | (go_at_call 118; (with_reducible refine (H1.out _ (by first | with_reducible exact hv0)).mono ?_); rintro e wq0 ⟨rfl, hb⟩; have hv1 : Below V.heap.size V wq0 := (by first | with_reducible exact bstep (hv0) hb); have hs1 := Ap.of_below (g := w.heap.size + 1) (h := w.heap.size + 1) hv1; have sz1 := hv1.size; clear hb)
        | (go_at_call 118; (with_reducible refine (H2.out _ (by first | with_reducible exact hv1)).mono ?_); rintro e wq1 ⟨rfl, hb⟩; have hv2 : Below V.heap.size V wq1 := (by first | with_reducible exact bstep (hv1) hb); have hs2 := Ap.of_below (g := w.heap.size + 1) (h := w.heap.size + 1) hv2; have sz2 := hv2.size; clear hb)
        | (go_at_call 118; (with_reducible refine (H3.out _ (by first | with_reducible exact hv2)).mono ?_); rintro e wq2 ⟨rfl, hb⟩; have hv3 : Below V.heap.size V wq2 := (by first | with_reducible exact bstep (hv2) hb); have hs3 := Ap.of_below (g := w.heap.size + 1) (h := w.heap.size + 1) hv3; have sz3 := hv3.size; have RoX := keep hv3 R2.out; obtain ⟨RoF0, RoF1, RoF2, RoF3, RoF4, RoF5, RoF6, RoF7, RoF8, RoF9, RoF10, RoF11, RoF12, RoF13, RoF14, RoF15, RoF16, RoF17⟩ := row9 RoX; clear hb))
  | fail
  all_goals
    go_wp2_with fail
    exact bodyPost_ret (res_ct rfl fr_row rfl (store9 RoX _ _ _ _ _ _ _ _ _) rfl) rfl ⟨rfl, store9_below (bstep hB hv3) (by omega) _ _ _ _ _ _ _ _ _⟩


set_option maxRecDepth 100000 in
set_option maxHeartbeats 4000000 in
theorem r16_Water_bad (h t d : ByteArray) (bd : Bool) (w : World)
    (hd : ∀ w, Calls Tryz.prog 43 #[.string d] w fun e w' => ∃ p q : Sl, e = .returned (.tuple #[qW bd p q, .bool false]) ∧ Below w.heap.size w w') :
    Calls Tryz.prog 53 #[.agg #[.string h, .string t], .string d] w fun e w' => e = .returned (.tuple #[.agg #[.string ⟨#[]⟩, .string ⟨#[]⟩, .string ⟨#[]⟩, .string ⟨#[]⟩], .int .i64 1]) ∧ Below w.heap.size w w' := by
  have HD := Lib.hid hd
  clear hd
  go_enter Tryz.func53, Tryz.ntmps53
  go_wp2_with fail
  generalize hW : (World.alloc w _).alloc _ = W
  obtain ⟨hB, hsz, R1, R2⟩ := A2 hW
  have R1 := Lib.hid R1
  have R2 := Lib.hid R2
  clear hW hsz
  refine (HD.out _).mono ?_
  rintro e w1 ⟨p, q, rfl, hb⟩
  replace hB := bstep hB hb
  have R1 := Lib.hid (keep hb R1.out)
  have R2 := Lib.hid (keep hb R2.out)
  clear hb
  go_upto_region 2 with fail
  generalize hW : World.alloc _ _ = V
  obtain ⟨hb, hsz, R3⟩ := A1 hW
  replace hB := bstep hB hb
  have R1 := Lib.hid (keep hb R1.out)
  have R2 := Lib.hid (keep hb R2.out)
  clear hb
  have R3 := Lib.hid R3
  clear hW hsz
  obtain ⟨R2c0, R2c1, R2c2, R2c3, R2f0, R2f1, R2f2, R2f3⟩ := row4 R2.out
  go_wp2_with fail
  exact bodyPost_ret (res_ct rfl plane_row rfl (store4 R2.out _ _ _ _) rfl) rfl ⟨rfl, store4_below hB (by omega) _ _ _ _⟩


set_option maxRecDepth 100000 in
set_option maxHeartbeats 4000000 in
theorem r16_Water_err (h t d : ByteArray) (bd : Bool) (cc : Int) (w : World) (hc1 : (cc != 0) = true)
    (hd : ∀ w, Calls Tryz.prog 43 #[.string d] w fun e w' => ∃ p q : Sl, e = .returned (.tuple #[qW bd p q, .bool true]) ∧ Below w.heap.size w w')
    (hf : ∀ w, Calls Tryz.prog 117 #[.agg #[.string h, .string t]] w fun e w' => e = .returned (.tuple #[.agg #[.bool false, .slice none 0 0, .slice none 0 0, .bool false, .slice none 0 0, .slice none 0 0, .bool false, .slice none 0 0, .slice none 0 0, .bool false, .slice none 0 0, .slice none 0 0, .bool false, .slice none 0 0, .slice none 0 0, .bool false, .slice none 0 0, .slice none 0 0, .bool false, .slice none 0 0, .slice none 0 0, .bool false, .slice none 0 0, .slice none 0 0, .bool false, .slice none 0 0, .slice none 0 0], .int .i64 cc]) ∧ Below w.heap.size w w') :
    Calls Tryz.prog 53 #[.agg #[.string h, .string t], .string d] w fun e w' => e = .returned (.tuple #[.agg #[.string ⟨#[]⟩, .string ⟨#[]⟩, .string ⟨#[]⟩, .string ⟨#[]⟩], .int .i64 cc]) ∧ Below w.heap.size w w' := by
  have HD := Lib.hid hd
  have HF := Lib.hid hf
  clear hd hf
  go_enter Tryz.func53, Tryz.ntmps53
  go_wp2_with fail
  generalize hW : (World.alloc w _).alloc _ = W
  obtain ⟨hB, hsz, R1, R2⟩ := A2 hW
  have R1 := Lib.hid R1
  have R2 := Lib.hid R2
  clear hW hsz
  refine (HD.out _).mono ?_
  rintro e w1 ⟨p, q, rfl, hb⟩
  replace hB := bstep hB hb
  have R1 := Lib.hid (keep hb R1.out)
  have R2 := Lib.hid (keep hb R2.out)
  clear hb
  go_upto_region 2 with fail
  generalize hW : World.alloc _ _ = V
  obtain ⟨hb, hsz, R3⟩ := A1 hW
  replace hB := bstep hB hb
  have R1 := Lib.hid (keep hb R1.out)
  have R2 := Lib.hid (keep hb R2.out)
  clear hb
  have R3 := Lib.hid R3
  clear hW hsz
  obtain ⟨c0, c1, f0, f1⟩ := row2 R1.out
  go_wp2_with fail
  clear c0 c1 f0 f1
  refine (HF.out _).mono ?_
  rintro e w2 ⟨rfl, hb⟩
  replace hB := bstep hB hb
  have R2 := Lib.hid (keep hb R2.out)
  clear hb
  go_upto_region 5 with fail
  generalize hW : World.alloc _ _ = V2
  obtain ⟨hb, hsz, R5⟩ := A1 hW
  replace hB := bstep hB hb
  have R2 := Lib.hid (keep hb R2.out)
  clear hb
  have R5 := Lib.hid R5
  clear hW hsz
  obtain ⟨R2c0, R2c1, R2c2, R2c3, R2f0, R2f1, R2f2, R2f3⟩ := row4 R2.out
  go_wp2_with fail
  exact bodyPost_ret (res_ct rfl plane_row rfl (store4 R2.out _ _ _ _) rfl) rfl ⟨rfl, store4_below hB (by omega) _ _ _ _⟩


set_option maxRecDepth 100000 in
set_option maxHeartbeats 4000000 in
theorem r16_Water_ok (h t d z0 z1 z2 : ByteArray) (bd b0 b1 b2 b3 b4 b5 b6 b7 b8 : Bool) (A S U : V3) (w : World)
    (hd : ∀ w, Calls Tryz.prog 43 #[.string d] w fun e w' => ∃ p q : Sl, e = .returned (.tuple #[qW bd p q, .bool true]) ∧ Below w.heap.size w w')
    (hf : ∀ w, Calls Tryz.prog 117 #[.agg #[.string h, .string t]] w fun e w' => ∃ fA fS fU : VS, e = .returned (.tuple #[.agg #[.bool b0, .slice fA.x.p.A fA.x.p.n fA.x.p.c, .slice fA.x.d.A fA.x.d.n fA.x.d.c, .bool b1, .slice fA.y.p.A fA.y.p.n fA.y.p.c, .slice fA.y.d.A fA.y.d.n fA.y.d.c, .bool b2, .slice fA.z.p.A fA.z.p.n fA.z.p.c, .slice fA.z.d.A fA.z.d.n fA.z.d.c, .bool b3, .slice fS.x.p.A fS.x.p.n fS.x.p.c, .slice fS.x.d.A fS.x.d.n fS.x.d.c, .bool b4, .slice fS.y.p.A fS.y.p.n fS.y.p.c, .slice fS.y.d.A fS.y.d.n fS.y.d.c, .bool b5, .slice fS.z.p.A fS.z.p.n fS.z.p.c, .slice fS.z.d.A fS.z.d.n fS.z.d.c, .bool b6, .slice fU.x.p.A fU.x.p.n fU.x.p.c, .slice fU.x.d.A fU.x.d.n fU.x.d.c, .bool b7, .slice fU.y.p.A fU.y.p.n fU.y.p.c, .slice fU.y.d.A fU.y.d.n fU.y.d.c, .bool b8, .slice fU.z.p.A fU.z.p.n fU.z.p.c, .slice fU.z.d.A fU.z.d.n fU.z.d.c], .int .i64 0]) ∧ RV w' fA A ∧ RV w' fS S ∧ RV w' fU U ∧ Below w.heap.size w w')
    (h1 : ∀ w s, RV w s U → Calls Tryz.prog 118 #[.agg #[.bool b6, .slice s.x.p.A s.x.p.n s.x.p.c, .slice s.x.d.A s.x.d.n s.x.d.c, .bool b7, .slice s.y.p.A s.y.p.n s.y.p.c, .slice s.y.d.A s.y.d.n s.y.d.c, .bool b8, .slice s.z.p.A s.z.p.n s.z.p.c, .slice s.z.d.A s.z.d.n s.z.d.c]] w fun e w' => e = .returned (.agg #[.string z0, .string z1, .string z2]) ∧ Below w.heap.size w w') :
    Calls Tryz.prog 53 #[.agg #[.string h, .string t], .string d] w fun e w' => e = .returned (.tuple #[.agg #[.string z0, .string z1, .string z2, .string d], .int .i64 0]) ∧ Below w.heap.size w w' := by
  have HD := Lib.hid hd
  have HF := Lib.hid hf
  have H1 := Lib.hid h1
  clear hd hf h1
  go_enter Tryz.func53, Tryz.ntmps53
  go_wp2_with fail
  generalize hW : (World.alloc w _).alloc _ = W
  obtain ⟨hB, hsz, R1, R2⟩ := A2 hW
  have R1 := Lib.hid R1
  have R2 := Lib.hid R2
  clear hW hsz
  refine (HD.out _).mono ?_
  rintro e w1 ⟨p, q, rfl, hb⟩
  replace hB := bstep hB hb
  have R1 := Lib.hid (keep hb R1.out)
  have R2 := Lib.hid (keep hb R2.out)
  clear hb
  go_upto_region 2 with fail
  generalize hW : World.alloc _ _ = V
  obtain ⟨hb, hsz, R3⟩ := A1 hW
  replace hB := bstep hB hb
  have R1 := Lib.hid (keep hb R1.out)
  have R2 := Lib.hid (keep hb R2.out)
  clear hb
  have R3 := Lib.hid R3
  clear hW hsz
  obtain ⟨c0, c1, f0, f1⟩ := row2 R1.out
  go_wp2_with fail
  clear c0 c1 f0 f1
  refine (HF.out _).mono ?_
  rintro e w2 ⟨fA, fS, fU, rfl, hA, hS, hU, hb⟩
  replace hB := bstep hB hb
  have KA := Lib.hid hA
  have KS := Lib.hid hS
  have KU := Lib.hid hU
  have R2 := Lib.hid (keep hb R2.out)
  clear hb
  go_upto_region 5 with fail
  generalize hW : World.alloc _ _ = V2
  obtain ⟨hb, hsz, R5⟩ := A1 hW
  replace hB := bstep hB hb
  have R2 := Lib.hid (keep hb R2.out)
  have KU := Lib.hid (KU.out.below hb)
  clear hb
  have R5 := Lib.hid R5
  clear hW hsz
  obtain ⟨x0, x1, x2, x3, x4, x5, x6, x7, x8, x9, x10, x11, x12, x13, x14, x15, x16, x17, x18, x19, x20, x21, x22, x23, x24, x25, x26⟩ := rowc27 R5.out
  go_wp2_with fail
  clear x0 x1 x2 x3 x4 x5 x6 x7 x8 x9 x10 x11 x12 x13 x14 x15 x16 x17 x18 x19 x20 x21 x22 x23 x24 x25 x26
  refine (H1.out _ _ KU.out).mono ?_
  rintro e w3 ⟨rfl, hb⟩
  replace hB := bstep hB hb
  have R2 := Lib.hid (keep hb R2.out)
  clear hb
  obtain ⟨R2c0, R2c1, R2c2, R2c3, R2f0, R2f1, R2f2, R2f3⟩ := row4 R2.out
  go_wp2_with fail
  exact bodyPost_ret (res_ct rfl plane_row rfl (store4 R2.out _ _ _ _) rfl) rfl ⟨rfl, store4_below hB (by omega) _ _ _ _⟩

theorem at_row : RowTy Tryz.prog 24 2 := rowTy_struct Tryz.underlying24 (by kernel_rfl)


set_option maxRecDepth 100000 in
set_option maxHeartbeats 4000000 in
theorem r16_Mirror_err (h t : ByteArray) (cc : Int) (w : World) (hc1 : (cc != 0) = true)
    (hc : ∀ w, Calls Tryz.prog 56 #[.agg #[.string h, .string t]] w fun e w' => e = .returned (.int .i64 cc) ∧ Below w.heap.size w w') :
    Calls Tryz.prog 54 #[.agg #[.string h, .string t]] w fun e w' => e = .returned (.tuple #[.agg #[.string ⟨#[]⟩, .string ⟨#[]⟩], .int .i64 cc]) ∧ Below w.heap.size w w' := by
  have HC := Lib.hid hc
  clear hc
  go_enter Tryz.func54, Tryz.ntmps54
  go_wp2_with fail
  generalize hW : (World.alloc w _).alloc _ = W
  obtain ⟨hB, hsz, R1, R2⟩ := A2 hW
  have R1 := Lib.hid R1
  have R2 := Lib.hid R2
  clear hW hsz
  obtain ⟨c0, c1, f0, f1⟩ := row2 R1.out
  go_wp2_with fail
  clear c0 c1 f0 f1
  refine (HC.out _).mono ?_
  rintro e w1 ⟨rfl, hb⟩
  replace hB := bstep hB hb
  have R1 := Lib.hid (keep hb R1.out)
  have R2 := Lib.hid (keep hb R2.out)
  clear hb
  obtain ⟨c0, c1, f0, f1⟩ := row2 R2.out
  go_wp2_with fail
  exact bodyPost_ret (res_ct rfl at_row rfl (store2 R2.out _ _) rfl) rfl ⟨rfl, store2_below hB (by omega) _ _⟩


set_option maxRecDepth 100000 in
set_option maxHeartbeats 4000000 in
theorem r16_Mirror_ok (h t z : ByteArray) (b1 b2 : Bool) (x y : Rat) (w : World)
    (hc : ∀ w, Calls Tryz.prog 56 #[.agg #[.string h, .string t]] w fun e w' => e = .returned (.int .i64 0) ∧ Below w.heap.size w w')
    (h1 : ∀ w, Calls Tryz.prog 114 #[.string h] w fun e w' => ∃ p d : Sl, e = .returned (.agg #[.bool b1, .slice p.A p.n p.c, .slice d.A d.n d.c]) ∧ RQ w' p d x ∧ Below w.heap.size w w')
    (h2 : ∀ w p d, RQ w p d x → Calls Tryz.prog 45 #[.agg #[.bool b1, .slice p.A p.n p.c, .slice d.A d.n d.c]] w fun e w' => ∃ a c : Sl, e = .returned (.agg #[.bool b2, .slice a.A a.n a.c, .slice c.A c.n c.c]) ∧ RQ w' a c y ∧ Below w.heap.size w w')
    (h3 : ∀ w p d, RQ w p d y → Calls Tryz.prog 44 #[.agg #[.bool b2, .slice p.A p.n p.c, .slice d.A d.n d.c]] w fun e w' => e = .returned (.string z) ∧ Below w.heap.size w w') :
    Calls Tryz.prog 54 #[.agg #[.string h, .string t]] w fun e w' => e = .returned (.tuple #[.agg #[.string z, .string t], .int .i64 0]) ∧ Below w.heap.size w w' := by
  have HC := Lib.hid hc
  have H1 := Lib.hid h1
  have H2 := Lib.hid h2
  have H3 := Lib.hid h3
  clear hc h1 h2 h3
  go_enter Tryz.func54, Tryz.ntmps54
  go_wp2_with fail
  generalize hW : (World.alloc w _).alloc _ = W
  obtain ⟨hB, hsz, R1, R2⟩ := A2 hW
  have R1 := Lib.hid R1
  have R2 := Lib.hid R2
  clear hW hsz
  obtain ⟨c0, c1, f0, f1⟩ := row2 R1.out
  go_wp2_with fail
  clear c0 c1 f0 f1
  refine (HC.out _).mono ?_
  rintro e w1 ⟨rfl, hb⟩
  replace hB := bstep hB hb
  have R1 := Lib.hid (keep hb R1.out)
  have R2 := Lib.hid (keep hb R2.out)
  clear hb
  go_upto_region 4 with fail
  have NE := Lib.hid (show w.heap.size ≠ w.heap.size + 1 by omega)
  have LR1 := fun (w' : World) (h : Ap (w.heap.size + 1) (w.heap.size + 1) w1 w') => rowc2 (h.row R1.out NE.out NE.out)
  have hvr := Below.refl w1.heap.size w1
  have hv0 := hvr.drew
  first
  | go_region_held3 (fun w' => Ap (w.heap.size + 1) (w.heap.size + 1) w1 w') (first | (with_reducible assumption) | (with_reducible exact Ap.refl _ _ _) | ((repeat (first | with_reducible assumption | with_reducible exact Ap.refl _ _ _ | with_reducible refine Ap.drew ?_ | with_reducible refine Ap.alloc ?_ | with_reducible refine Ap.set1 ?_ | with_reducible refine Ap.set2 ?_ | with_reducible refine Ap.setN (by first | with_reducible assumption | with_reducible exact Nat.le_refl _ | with_reducible exact Nat.le_add_right _ _ | with_reducible exact Nat.le_trans (by assumption) (Nat.le_add_right _ _)) ?_)); done))
      (first
        | (go_at_call 114; (with_reducible refine (H1.out _ ).mono ?_); rintro e wq0 ⟨p_0, d_0, rfl, hk_0, hb⟩; have hv1 : Below w1.heap.size w1 wq0 := (by first | with_reducible exact bstep (hv0) hb); have hs1 := Ap.of_below (g := w.heap.size + 1) (h := w.heap.size + 1) hv1; have sz1 := hv1.size; have L0 := Lib.hid hk_0; clear hk_0; clear hb)
        | (go_at_call 45; (with_reducible refine (H2.out _  p_0 d_0 (by first | with_reducible exact L0.out | with_reducible exact (L0.out.below (Below.drew (Below.refl _ _))))).mono ?_); rintro e wq1 ⟨p_1, d_1, rfl, hk_1, hb⟩; have hv2 : Below w1.heap.size w1 wq1 := (by first | with_reducible exact bstep (hv1) hb); have hs2 := Ap.of_below (g := w.heap.size + 1) (h := w.heap.size + 1) hv2; have sz2 := hv2.size; have L0 := Lib.hid (by first | with_reducible exact L0.out.below hb | with_reducible exact (L0.out.below (Below.drew (Below.refl _ _))).below hb); have L1 := Lib.hid hk_1; clear hk_1; clear hb)
        | (go_at_call 44; (with_reducible refine (H3.out _  p_1 d_1 (by first | with_reducible exact L1.out | with_reducible exact (L1.out.below (Below.drew (Below.refl _ _))))).mono ?_); rintro e wq2 ⟨rfl, hb⟩; have hv3 : Below w1.heap.size w1 wq2 := (by first | with_reducible exact bstep (hv2) hb); have hs3 := Ap.of_below (g := w.heap.size + 1) (h := w.heap.size + 1) hv3; have sz3 := hv3.size; have L0 := Lib.hid (by first | with_reducible exact L0.out.below hb | with_reducible exact (L0.out.below (Below.drew (Below.refl _ _))).below hb); have L1 := Lib.hid (by first | with_reducible exact L1.out.below hb | with_reducible exact (L1.out.below (Below.drew (Below.refl _ _))).below hb); have RoX := keep hv3 R2.out; obtain ⟨RoF0, RoF1, RoF2, RoF3⟩ := row2 RoX; clear hb))
  | fail
  all_goals
    go_wp2_with fail
    exact bodyPost_ret (res_ct rfl at_row rfl (store2 RoX _ _) rfl) rfl ⟨rfl, store2_below (bstep hB hv3) (by omega) _ _⟩

end Go.Proofs.YtgbabmkclojgeaaGreatDoor

/- The reference of layer 16: Turn, Back. -/
namespace Go.Proofs.YtgbabmkclojgeaaGreatDoor
open Go.RowKit Go.Shelf Go.Sort

attribute [local go_sem] Oper.semAt_some
attribute [local go_sem ↓ high] storeAt_fr loadAt_fr
attribute [local go_sem high] run_storeAt_fr run_storeAt_frN


set_option maxRecDepth 100000 in
set_option maxHeartbeats 4000000 in
theorem r16_Turn_bad (h t r0 r1 r2 : ByteArray) (v0 v1 v2 : Bool) (r : V3) (w : World)
    (hv : ∀ w, Calls Tryz.prog 16 #[.agg #[.string r0, .string r1, .string r2]] w fun e w' => ∃ u : VS, e = .returned (.tuple #[.agg #[.bool v0, .slice u.x.p.A u.x.p.n u.x.p.c, .slice u.x.d.A u.x.d.n u.x.d.c, .bool v1, .slice u.y.p.A u.y.p.n u.y.p.c, .slice u.y.d.A u.y.d.n u.y.d.c, .bool v2, .slice u.z.p.A u.z.p.n u.z.p.c, .slice u.z.d.A u.z.d.n u.z.d.c], .bool false]) ∧ RV w' u r ∧ Below w.heap.size w w') :
    Calls Tryz.prog 57 #[.agg #[.string h, .string t], .agg #[.string r0, .string r1, .string r2]] w fun e w' => e = .returned (.tuple #[.agg #[.string ⟨#[]⟩, .string ⟨#[]⟩, .string ⟨#[]⟩], .int .i64 1]) ∧ Below w.heap.size w w' := by
  have HV := Lib.hid hv
  clear hv
  go_enter Tryz.func57, Tryz.ntmps57
  go_wp2_with fail
  generalize hW : ((World.alloc w _).alloc _).alloc _ = W
  obtain ⟨hB, hsz, R1, R2, R3⟩ := A3 hW
  have R1 := Lib.hid R1
  have R2 := Lib.hid R2
  have R3 := Lib.hid R3
  clear hW hsz
  obtain ⟨R2c0, R2c1, R2c2, R2f0, R2f1, R2f2⟩ := row3 R2.out
  go_wp2_with fail
  clear R2c0 R2c1 R2c2 R2f0 R2f1 R2f2
  refine (HV.out _).mono ?_
  rintro e w1 ⟨u, rfl, hr, hb⟩
  replace hB := bstep hB hb
  have KR := Lib.hid hr
  have R1 := Lib.hid (keep hb R1.out)
  have R3 := Lib.hid (keep hb R3.out)
  clear hb
  go_upto_region 2 with fail
  generalize hW : World.alloc _ _ = V
  obtain ⟨hb, hsz, R4⟩ := A1 hW
  replace hB := bstep hB hb
  have R1 := Lib.hid (keep hb R1.out)
  have R3 := Lib.hid (keep hb R3.out)
  have KR := Lib.hid (KR.out.below hb)
  clear hb
  have R4 := Lib.hid R4
  clear hW hsz
  obtain ⟨R3c0, R3c1, R3c2, R3f0, R3f1, R3f2⟩ := row3 R3.out
  go_wp2_with fail
  exact bodyPost_ret (res_ct rfl vec_row rfl (store3 R3.out _ _ _) rfl) rfl ⟨rfl, store3_below hB (by omega) _ _ _⟩


set_option maxRecDepth 100000 in
set_option maxHeartbeats 4000000 in
theorem r16_Turn_err (h t r0 r1 r2 : ByteArray) (v0 v1 v2 : Bool) (r : V3) (cc : Int) (w : World) (hc1 : (cc != 0) = true)
    (hv : ∀ w, Calls Tryz.prog 16 #[.agg #[.string r0, .string r1, .string r2]] w fun e w' => ∃ u : VS, e = .returned (.tuple #[.agg #[.bool v0, .slice u.x.p.A u.x.p.n u.x.p.c, .slice u.x.d.A u.x.d.n u.x.d.c, .bool v1, .slice u.y.p.A u.y.p.n u.y.p.c, .slice u.y.d.A u.y.d.n u.y.d.c, .bool v2, .slice u.z.p.A u.z.p.n u.z.p.c, .slice u.z.d.A u.z.d.n u.z.d.c], .bool true]) ∧ RV w' u r ∧ Below w.heap.size w w')
    (hf : ∀ w, Calls Tryz.prog 117 #[.agg #[.string h, .string t]] w fun e w' => e = .returned (.tuple #[.agg #[.bool false, .slice none 0 0, .slice none 0 0, .bool false, .slice none 0 0, .slice none 0 0, .bool false, .slice none 0 0, .slice none 0 0, .bool false, .slice none 0 0, .slice none 0 0, .bool false, .slice none 0 0, .slice none 0 0, .bool false, .slice none 0 0, .slice none 0 0, .bool false, .slice none 0 0, .slice none 0 0, .bool false, .slice none 0 0, .slice none 0 0, .bool false, .slice none 0 0, .slice none 0 0], .int .i64 cc]) ∧ Below w.heap.size w w') :
    Calls Tryz.prog 57 #[.agg #[.string h, .string t], .agg #[.string r0, .string r1, .string r2]] w fun e w' => e = .returned (.tuple #[.agg #[.string ⟨#[]⟩, .string ⟨#[]⟩, .string ⟨#[]⟩], .int .i64 cc]) ∧ Below w.heap.size w w' := by
  have HV := Lib.hid hv
  have HF := Lib.hid hf
  clear hv hf
  go_enter Tryz.func57, Tryz.ntmps57
  go_wp2_with fail
  generalize hW : ((World.alloc w _).alloc _).alloc _ = W
  obtain ⟨hB, hsz, R1, R2, R3⟩ := A3 hW
  have R1 := Lib.hid R1
  have R2 := Lib.hid R2
  have R3 := Lib.hid R3
  clear hW hsz
  obtain ⟨R2c0, R2c1, R2c2, R2f0, R2f1, R2f2⟩ := row3 R2.out
  go_wp2_with fail
  clear R2c0 R2c1 R2c2 R2f0 R2f1 R2f2
  refine (HV.out _).mono ?_
  rintro e w1 ⟨u, rfl, hr, hb⟩
  replace hB := bstep hB hb
  have KR := Lib.hid hr
  have R1 := Lib.hid (keep hb R1.out)
  have R3 := Lib.hid (keep hb R3.out)
  clear hb
  go_upto_region 2 with fail
  generalize hW : World.alloc _ _ = V
  obtain ⟨hb, hsz, R4⟩ := A1 hW
  replace hB := bstep hB hb
  have R1 := Lib.hid (keep hb R1.out)
  have R3 := Lib.hid (keep hb R3.out)
  have KR := Lib.hid (KR.out.below hb)
  clear hb
  have R4 := Lib.hid R4
  clear hW hsz
  obtain ⟨c0, c1, f0, f1⟩ := row2 R1.out
  go_wp2_with fail
  clear c0 c1 f0 f1
  refine (HF.out _).mono ?_
  rintro e w2 ⟨rfl, hb⟩
  replace hB := bstep hB hb
  have R3 := Lib.hid (keep hb R3.out)
  clear hb
  go_upto_region 5 with fail
  generalize hW : World.alloc _ _ = V2
  obtain ⟨hb, hsz, R5⟩ := A1 hW
  replace hB := bstep hB hb
  have R3 := Lib.hid (keep hb R3.out)
  clear hb
  have R5 := Lib.hid R5
  clear hW hsz
  obtain ⟨R3c0, R3c1, R3c2, R3f0, R3f1, R3f2⟩ := row3 R3.out
  go_wp2_with fail
  exact bodyPost_ret (res_ct rfl vec_row rfl (store3 R3.out _ _ _) rfl) rfl ⟨rfl, store3_below hB (by omega) _ _ _⟩


set_option maxRecDepth 100000 in
set_option maxHeartbeats 4000000 in
theorem r16_Turn_ok (h t r0 r1 r2 z0 z1 z2 : ByteArray) (v0 v1 v2 y0 y1 y2 b0 b1 b2 b3 b4 b5 b6 b7 b8 : Bool) (r T A S U : V3) (w : World)
    (hv : ∀ w, Calls Tryz.prog 16 #[.agg #[.string r0, .string r1, .string r2]] w fun e w' => ∃ u : VS, e = .returned (.tuple #[.agg #[.bool v0, .slice u.x.p.A u.x.p.n u.x.p.c, .slice u.x.d.A u.x.d.n u.x.d.c, .bool v1, .slice u.y.p.A u.y.p.n u.y.p.c, .slice u.y.d.A u.y.d.n u.y.d.c, .bool v2, .slice u.z.p.A u.z.p.n u.z.p.c, .slice u.z.d.A u.z.d.n u.z.d.c], .bool true]) ∧ RV w' u r ∧ Below w.heap.size w w')
    (hf : ∀ w, Calls Tryz.prog 117 #[.agg #[.string h, .string t]] w fun e w' => ∃ fA fS fU : VS, e = .returned (.tuple #[.agg #[.bool b0, .slice fA.x.p.A fA.x.p.n fA.x.p.c, .slice fA.x.d.A fA.x.d.n fA.x.d.c, .bool b1, .slice fA.y.p.A fA.y.p.n fA.y.p.c, .slice fA.y.d.A fA.y.d.n fA.y.d.c, .bool b2, .slice fA.z.p.A fA.z.p.n fA.z.p.c, .slice fA.z.d.A fA.z.d.n fA.z.d.c, .bool b3, .slice fS.x.p.A fS.x.p.n fS.x.p.c, .slice fS.x.d.A fS.x.d.n fS.x.d.c, .bool b4, .slice fS.y.p.A fS.y.p.n fS.y.p.c, .slice fS.y.d.A fS.y.d.n fS.y.d.c, .bool b5, .slice fS.z.p.A fS.z.p.n fS.z.p.c, .slice fS.z.d.A fS.z.d.n fS.z.d.c, .bool b6, .slice fU.x.p.A fU.x.p.n fU.x.p.c, .slice fU.x.d.A fU.x.d.n fU.x.d.c, .bool b7, .slice fU.y.p.A fU.y.p.n fU.y.p.c, .slice fU.y.d.A fU.y.d.n fU.y.d.c, .bool b8, .slice fU.z.p.A fU.z.p.n fU.z.p.c, .slice fU.z.d.A fU.z.d.n fU.z.d.c], .int .i64 0]) ∧ RV w' fA A ∧ RV w' fS S ∧ RV w' fU U ∧ Below w.heap.size w w')
    (h1 : ∀ w (fA fS fU u : VS), RV w fA A → RV w fS S → RV w fU U → RV w u r → Calls Tryz.prog 122 #[.agg #[.bool b0, .slice fA.x.p.A fA.x.p.n fA.x.p.c, .slice fA.x.d.A fA.x.d.n fA.x.d.c, .bool b1, .slice fA.y.p.A fA.y.p.n fA.y.p.c, .slice fA.y.d.A fA.y.d.n fA.y.d.c, .bool b2, .slice fA.z.p.A fA.z.p.n fA.z.p.c, .slice fA.z.d.A fA.z.d.n fA.z.d.c, .bool b3, .slice fS.x.p.A fS.x.p.n fS.x.p.c, .slice fS.x.d.A fS.x.d.n fS.x.d.c, .bool b4, .slice fS.y.p.A fS.y.p.n fS.y.p.c, .slice fS.y.d.A fS.y.d.n fS.y.d.c, .bool b5, .slice fS.z.p.A fS.z.p.n fS.z.p.c, .slice fS.z.d.A fS.z.d.n fS.z.d.c, .bool b6, .slice fU.x.p.A fU.x.p.n fU.x.p.c, .slice fU.x.d.A fU.x.d.n fU.x.d.c, .bool b7, .slice fU.y.p.A fU.y.p.n fU.y.p.c, .slice fU.y.d.A fU.y.d.n fU.y.d.c, .bool b8, .slice fU.z.p.A fU.z.p.n fU.z.p.c, .slice fU.z.d.A fU.z.d.n fU.z.d.c], .agg #[.bool v0, .slice u.x.p.A u.x.p.n u.x.p.c, .slice u.x.d.A u.x.d.n u.x.d.c, .bool v1, .slice u.y.p.A u.y.p.n u.y.p.c, .slice u.y.d.A u.y.d.n u.y.d.c, .bool v2, .slice u.z.p.A u.z.p.n u.z.p.c, .slice u.z.d.A u.z.d.n u.z.d.c]] w fun e w' => ∃ s : VS, e = .returned (.agg #[.bool y0, .slice s.x.p.A s.x.p.n s.x.p.c, .slice s.x.d.A s.x.d.n s.x.d.c, .bool y1, .slice s.y.p.A s.y.p.n s.y.p.c, .slice s.y.d.A s.y.d.n s.y.d.c, .bool y2, .slice s.z.p.A s.z.p.n s.z.p.c, .slice s.z.d.A s.z.d.n s.z.d.c]) ∧ RV w' s T ∧ Below w.heap.size w w')
    (h2 : ∀ w s, RV w s T → Calls Tryz.prog 118 #[.agg #[.bool y0, .slice s.x.p.A s.x.p.n s.x.p.c, .slice s.x.d.A s.x.d.n s.x.d.c, .bool y1, .slice s.y.p.A s.y.p.n s.y.p.c, .slice s.y.d.A s.y.d.n s.y.d.c, .bool y2, .slice s.z.p.A s.z.p.n s.z.p.c, .slice s.z.d.A s.z.d.n s.z.d.c]] w fun e w' => e = .returned (.agg #[.string z0, .string z1, .string z2]) ∧ Below w.heap.size w w') :
    Calls Tryz.prog 57 #[.agg #[.string h, .string t], .agg #[.string r0, .string r1, .string r2]] w fun e w' => e = .returned (.tuple #[.agg #[.string z0, .string z1, .string z2], .int .i64 0]) ∧ Below w.heap.size w w' := by
  have HV := Lib.hid hv
  have HF := Lib.hid hf
  have H1 := Lib.hid h1
  have H2 := Lib.hid h2
  clear hv hf h1 h2
  go_enter Tryz.func57, Tryz.ntmps57
  go_wp2_with fail
  generalize hW : ((World.alloc w _).alloc _).alloc _ = W
  obtain ⟨hB, hsz, R1, R2, R3⟩ := A3 hW
  have R1 := Lib.hid R1
  have R2 := Lib.hid R2
  have R3 := Lib.hid R3
  clear hW hsz
  obtain ⟨R2c0, R2c1, R2c2, R2f0, R2f1, R2f2⟩ := row3 R2.out
  go_wp2_with fail
  clear R2c0 R2c1 R2c2 R2f0 R2f1 R2f2
  refine (HV.out _).mono ?_
  rintro e w1 ⟨u, rfl, hr, hb⟩
  replace hB := bstep hB hb
  have KR := Lib.hid hr
  have R1 := Lib.hid (keep hb R1.out)
  have R3 := Lib.hid (keep hb R3.out)
  clear hb
  go_upto_region 2 with fail
  generalize hW : World.alloc _ _ = V
  obtain ⟨hb, hsz, R4⟩ := A1 hW
  replace hB := bstep hB hb
  have R1 := Lib.hid (keep hb R1.out)
  have R3 := Lib.hid (keep hb R3.out)
  have KR := Lib.hid (KR.out.below hb)
  clear hb
  have R4 := Lib.hid R4
  clear hW hsz
  obtain ⟨c0, c1, f0, f1⟩ := row2 R1.out
  go_wp2_with fail
  clear c0 c1 f0 f1
  refine (HF.out _).mono ?_
  rintro e w2 ⟨fA, fS, fU, rfl, hA, hS, hU, hb⟩
  replace hB := bstep hB hb
  have KA := Lib.hid hA
  have KS := Lib.hid hS
  have KU := Lib.hid hU
  have KR := Lib.hid (KR.out.below hb)
  have R4 := Lib.hid (keep hb R4.out)
  have R3 := Lib.hid (keep hb R3.out)
  clear hb
  go_upto_region 5 with fail
  generalize hW : World.alloc _ _ = V2
  obtain ⟨hb, hsz, R5⟩ := A1 hW
  replace hB := bstep hB hb
  have R3 := Lib.hid (keep hb R3.out)
  have R4 := Lib.hid (keep hb R4.out)
  have KA := Lib.hid (KA.out.below hb)
  have KS := Lib.hid (KS.out.below hb)
  have KU := Lib.hid (KU.out.below hb)
  have KR := Lib.hid (KR.out.below hb)
  clear hb
  have R5 := Lib.hid R5
  clear hW hsz
  have LF := run_loadFr R5.out rfl
  obtain ⟨k0, k1, k2, k3, k4, k5, k6, k7, k8⟩ := rowc9 R4.out
  go_wp2_with fail
  clear LF k0 k1 k2 k3 k4 k5 k6 k7 k8
  refine (H1.out _ _ _ _ _ KA.out KS.out KU.out KR.out).mono ?_
  rintro e w3 ⟨s, rfl, hs, hb⟩
  replace hB := bstep hB hb
  have R3 := Lib.hid (keep hb R3.out)
  clear hb
  go_wp2_with fail
  refine (H2.out _ _ hs).mono ?_
  rintro e w4 ⟨rfl, hb⟩
  replace hB := bstep hB hb
  have R3 := Lib.hid (keep hb R3.out)
  clear hb
  obtain ⟨R3c0, R3c1, R3c2, R3f0, R3f1, R3f2⟩ := row3 R3.out
  go_wp2_with fail
  exact bodyPost_ret (res_ct rfl vec_row rfl (store3 R3.out _ _ _) rfl) rfl ⟨rfl, store3_below hB (by omega) _ _ _⟩


set_option maxRecDepth 100000 in
set_option maxHeartbeats 4000000 in
theorem r16_Back_bad (h t r0 r1 r2 : ByteArray) (v0 v1 v2 : Bool) (r : V3) (w : World)
    (hv : ∀ w, Calls Tryz.prog 16 #[.agg #[.string r0, .string r1, .string r2]] w fun e w' => ∃ u : VS, e = .returned (.tuple #[.agg #[.bool v0, .slice u.x.p.A u.x.p.n u.x.p.c, .slice u.x.d.A u.x.d.n u.x.d.c, .bool v1, .slice u.y.p.A u.y.p.n u.y.p.c, .slice u.y.d.A u.y.d.n u.y.d.c, .bool v2, .slice u.z.p.A u.z.p.n u.z.p.c, .slice u.z.d.A u.z.d.n u.z.d.c], .bool false]) ∧ RV w' u r ∧ Below w.heap.size w w') :
    Calls Tryz.prog 59 #[.agg #[.string h, .string t], .agg #[.string r0, .string r1, .string r2]] w fun e w' => e = .returned (.tuple #[.agg #[.string ⟨#[]⟩, .string ⟨#[]⟩, .string ⟨#[]⟩], .int .i64 1]) ∧ Below w.heap.size w w' := by
  have HV := Lib.hid hv
  clear hv
  go_enter Tryz.func59, Tryz.ntmps59
  go_wp2_with fail
  generalize hW : ((World.alloc w _).alloc _).alloc _ = W
  obtain ⟨hB, hsz, R1, R2, R3⟩ := A3 hW
  have R1 := Lib.hid R1
  have R2 := Lib.hid R2
  have R3 := Lib.hid R3
  clear hW hsz
  obtain ⟨R2c0, R2c1, R2c2, R2f0, R2f1, R2f2⟩ := row3 R2.out
  go_wp2_with fail
  clear R2c0 R2c1 R2c2 R2f0 R2f1 R2f2
  refine (HV.out _).mono ?_
  rintro e w1 ⟨u, rfl, hr, hb⟩
  replace hB := bstep hB hb
  have KR := Lib.hid hr
  have R1 := Lib.hid (keep hb R1.out)
  have R3 := Lib.hid (keep hb R3.out)
  clear hb
  go_upto_region 2 with fail
  generalize hW : World.alloc _ _ = V
  obtain ⟨hb, hsz, R4⟩ := A1 hW
  replace hB := bstep hB hb
  have R1 := Lib.hid (keep hb R1.out)
  have R3 := Lib.hid (keep hb R3.out)
  have KR := Lib.hid (KR.out.below hb)
  clear hb
  have R4 := Lib.hid R4
  clear hW hsz
  obtain ⟨R3c0, R3c1, R3c2, R3f0, R3f1, R3f2⟩ := row3 R3.out
  go_wp2_with fail
  exact bodyPost_ret (res_ct rfl vec_row rfl (store3 R3.out _ _ _) rfl) rfl ⟨rfl, store3_below hB (by omega) _ _ _⟩


set_option maxRecDepth 100000 in
set_option maxHeartbeats 4000000 in
theorem r16_Back_err (h t r0 r1 r2 : ByteArray) (v0 v1 v2 : Bool) (r : V3) (cc : Int) (w : World) (hc1 : (cc != 0) = true)
    (hv : ∀ w, Calls Tryz.prog 16 #[.agg #[.string r0, .string r1, .string r2]] w fun e w' => ∃ u : VS, e = .returned (.tuple #[.agg #[.bool v0, .slice u.x.p.A u.x.p.n u.x.p.c, .slice u.x.d.A u.x.d.n u.x.d.c, .bool v1, .slice u.y.p.A u.y.p.n u.y.p.c, .slice u.y.d.A u.y.d.n u.y.d.c, .bool v2, .slice u.z.p.A u.z.p.n u.z.p.c, .slice u.z.d.A u.z.d.n u.z.d.c], .bool true]) ∧ RV w' u r ∧ Below w.heap.size w w')
    (hf : ∀ w, Calls Tryz.prog 117 #[.agg #[.string h, .string t]] w fun e w' => e = .returned (.tuple #[.agg #[.bool false, .slice none 0 0, .slice none 0 0, .bool false, .slice none 0 0, .slice none 0 0, .bool false, .slice none 0 0, .slice none 0 0, .bool false, .slice none 0 0, .slice none 0 0, .bool false, .slice none 0 0, .slice none 0 0, .bool false, .slice none 0 0, .slice none 0 0, .bool false, .slice none 0 0, .slice none 0 0, .bool false, .slice none 0 0, .slice none 0 0, .bool false, .slice none 0 0, .slice none 0 0], .int .i64 cc]) ∧ Below w.heap.size w w') :
    Calls Tryz.prog 59 #[.agg #[.string h, .string t], .agg #[.string r0, .string r1, .string r2]] w fun e w' => e = .returned (.tuple #[.agg #[.string ⟨#[]⟩, .string ⟨#[]⟩, .string ⟨#[]⟩], .int .i64 cc]) ∧ Below w.heap.size w w' := by
  have HV := Lib.hid hv
  have HF := Lib.hid hf
  clear hv hf
  go_enter Tryz.func59, Tryz.ntmps59
  go_wp2_with fail
  generalize hW : ((World.alloc w _).alloc _).alloc _ = W
  obtain ⟨hB, hsz, R1, R2, R3⟩ := A3 hW
  have R1 := Lib.hid R1
  have R2 := Lib.hid R2
  have R3 := Lib.hid R3
  clear hW hsz
  obtain ⟨R2c0, R2c1, R2c2, R2f0, R2f1, R2f2⟩ := row3 R2.out
  go_wp2_with fail
  clear R2c0 R2c1 R2c2 R2f0 R2f1 R2f2
  refine (HV.out _).mono ?_
  rintro e w1 ⟨u, rfl, hr, hb⟩
  replace hB := bstep hB hb
  have KR := Lib.hid hr
  have R1 := Lib.hid (keep hb R1.out)
  have R3 := Lib.hid (keep hb R3.out)
  clear hb
  go_upto_region 2 with fail
  generalize hW : World.alloc _ _ = V
  obtain ⟨hb, hsz, R4⟩ := A1 hW
  replace hB := bstep hB hb
  have R1 := Lib.hid (keep hb R1.out)
  have R3 := Lib.hid (keep hb R3.out)
  have KR := Lib.hid (KR.out.below hb)
  clear hb
  have R4 := Lib.hid R4
  clear hW hsz
  obtain ⟨c0, c1, f0, f1⟩ := row2 R1.out
  go_wp2_with fail
  clear c0 c1 f0 f1
  refine (HF.out _).mono ?_
  rintro e w2 ⟨rfl, hb⟩
  replace hB := bstep hB hb
  have R3 := Lib.hid (keep hb R3.out)
  clear hb
  go_upto_region 5 with fail
  generalize hW : World.alloc _ _ = V2
  obtain ⟨hb, hsz, R5⟩ := A1 hW
  replace hB := bstep hB hb
  have R3 := Lib.hid (keep hb R3.out)
  clear hb
  have R5 := Lib.hid R5
  clear hW hsz
  obtain ⟨R3c0, R3c1, R3c2, R3f0, R3f1, R3f2⟩ := row3 R3.out
  go_wp2_with fail
  exact bodyPost_ret (res_ct rfl vec_row rfl (store3 R3.out _ _ _) rfl) rfl ⟨rfl, store3_below hB (by omega) _ _ _⟩


set_option maxRecDepth 100000 in
set_option maxHeartbeats 4000000 in
theorem r16_Back_ok (h t r0 r1 r2 z0 z1 z2 : ByteArray) (v0 v1 v2 y0 y1 y2 b0 b1 b2 b3 b4 b5 b6 b7 b8 : Bool) (r T A S U : V3) (w : World)
    (hv : ∀ w, Calls Tryz.prog 16 #[.agg #[.string r0, .string r1, .string r2]] w fun e w' => ∃ u : VS, e = .returned (.tuple #[.agg #[.bool v0, .slice u.x.p.A u.x.p.n u.x.p.c, .slice u.x.d.A u.x.d.n u.x.d.c, .bool v1, .slice u.y.p.A u.y.p.n u.y.p.c, .slice u.y.d.A u.y.d.n u.y.d.c, .bool v2, .slice u.z.p.A u.z.p.n u.z.p.c, .slice u.z.d.A u.z.d.n u.z.d.c], .bool true]) ∧ RV w' u r ∧ Below w.heap.size w w')
    (hf : ∀ w, Calls Tryz.prog 117 #[.agg #[.string h, .string t]] w fun e w' => ∃ fA fS fU : VS, e = .returned (.tuple #[.agg #[.bool b0, .slice fA.x.p.A fA.x.p.n fA.x.p.c, .slice fA.x.d.A fA.x.d.n fA.x.d.c, .bool b1, .slice fA.y.p.A fA.y.p.n fA.y.p.c, .slice fA.y.d.A fA.y.d.n fA.y.d.c, .bool b2, .slice fA.z.p.A fA.z.p.n fA.z.p.c, .slice fA.z.d.A fA.z.d.n fA.z.d.c, .bool b3, .slice fS.x.p.A fS.x.p.n fS.x.p.c, .slice fS.x.d.A fS.x.d.n fS.x.d.c, .bool b4, .slice fS.y.p.A fS.y.p.n fS.y.p.c, .slice fS.y.d.A fS.y.d.n fS.y.d.c, .bool b5, .slice fS.z.p.A fS.z.p.n fS.z.p.c, .slice fS.z.d.A fS.z.d.n fS.z.d.c, .bool b6, .slice fU.x.p.A fU.x.p.n fU.x.p.c, .slice fU.x.d.A fU.x.d.n fU.x.d.c, .bool b7, .slice fU.y.p.A fU.y.p.n fU.y.p.c, .slice fU.y.d.A fU.y.d.n fU.y.d.c, .bool b8, .slice fU.z.p.A fU.z.p.n fU.z.p.c, .slice fU.z.d.A fU.z.d.n fU.z.d.c], .int .i64 0]) ∧ RV w' fA A ∧ RV w' fS S ∧ RV w' fU U ∧ Below w.heap.size w w')
    (h1 : ∀ w (fA fS fU u : VS), RV w fA A → RV w fS S → RV w fU U → RV w u r → Calls Tryz.prog 123 #[.agg #[.bool b0, .slice fA.x.p.A fA.x.p.n fA.x.p.c, .slice fA.x.d.A fA.x.d.n fA.x.d.c, .bool b1, .slice fA.y.p.A fA.y.p.n fA.y.p.c, .slice fA.y.d.A fA.y.d.n fA.y.d.c, .bool b2, .slice fA.z.p.A fA.z.p.n fA.z.p.c, .slice fA.z.d.A fA.z.d.n fA.z.d.c, .bool b3, .slice fS.x.p.A fS.x.p.n fS.x.p.c, .slice fS.x.d.A fS.x.d.n fS.x.d.c, .bool b4, .slice fS.y.p.A fS.y.p.n fS.y.p.c, .slice fS.y.d.A fS.y.d.n fS.y.d.c, .bool b5, .slice fS.z.p.A fS.z.p.n fS.z.p.c, .slice fS.z.d.A fS.z.d.n fS.z.d.c, .bool b6, .slice fU.x.p.A fU.x.p.n fU.x.p.c, .slice fU.x.d.A fU.x.d.n fU.x.d.c, .bool b7, .slice fU.y.p.A fU.y.p.n fU.y.p.c, .slice fU.y.d.A fU.y.d.n fU.y.d.c, .bool b8, .slice fU.z.p.A fU.z.p.n fU.z.p.c, .slice fU.z.d.A fU.z.d.n fU.z.d.c], .agg #[.bool v0, .slice u.x.p.A u.x.p.n u.x.p.c, .slice u.x.d.A u.x.d.n u.x.d.c, .bool v1, .slice u.y.p.A u.y.p.n u.y.p.c, .slice u.y.d.A u.y.d.n u.y.d.c, .bool v2, .slice u.z.p.A u.z.p.n u.z.p.c, .slice u.z.d.A u.z.d.n u.z.d.c]] w fun e w' => ∃ s : VS, e = .returned (.agg #[.bool y0, .slice s.x.p.A s.x.p.n s.x.p.c, .slice s.x.d.A s.x.d.n s.x.d.c, .bool y1, .slice s.y.p.A s.y.p.n s.y.p.c, .slice s.y.d.A s.y.d.n s.y.d.c, .bool y2, .slice s.z.p.A s.z.p.n s.z.p.c, .slice s.z.d.A s.z.d.n s.z.d.c]) ∧ RV w' s T ∧ Below w.heap.size w w')
    (h2 : ∀ w s, RV w s T → Calls Tryz.prog 118 #[.agg #[.bool y0, .slice s.x.p.A s.x.p.n s.x.p.c, .slice s.x.d.A s.x.d.n s.x.d.c, .bool y1, .slice s.y.p.A s.y.p.n s.y.p.c, .slice s.y.d.A s.y.d.n s.y.d.c, .bool y2, .slice s.z.p.A s.z.p.n s.z.p.c, .slice s.z.d.A s.z.d.n s.z.d.c]] w fun e w' => e = .returned (.agg #[.string z0, .string z1, .string z2]) ∧ Below w.heap.size w w') :
    Calls Tryz.prog 59 #[.agg #[.string h, .string t], .agg #[.string r0, .string r1, .string r2]] w fun e w' => e = .returned (.tuple #[.agg #[.string z0, .string z1, .string z2], .int .i64 0]) ∧ Below w.heap.size w w' := by
  have HV := Lib.hid hv
  have HF := Lib.hid hf
  have H1 := Lib.hid h1
  have H2 := Lib.hid h2
  clear hv hf h1 h2
  go_enter Tryz.func59, Tryz.ntmps59
  go_wp2_with fail
  generalize hW : ((World.alloc w _).alloc _).alloc _ = W
  obtain ⟨hB, hsz, R1, R2, R3⟩ := A3 hW
  have R1 := Lib.hid R1
  have R2 := Lib.hid R2
  have R3 := Lib.hid R3
  clear hW hsz
  obtain ⟨R2c0, R2c1, R2c2, R2f0, R2f1, R2f2⟩ := row3 R2.out
  go_wp2_with fail
  clear R2c0 R2c1 R2c2 R2f0 R2f1 R2f2
  refine (HV.out _).mono ?_
  rintro e w1 ⟨u, rfl, hr, hb⟩
  replace hB := bstep hB hb
  have KR := Lib.hid hr
  have R1 := Lib.hid (keep hb R1.out)
  have R3 := Lib.hid (keep hb R3.out)
  clear hb
  go_upto_region 2 with fail
  generalize hW : World.alloc _ _ = V
  obtain ⟨hb, hsz, R4⟩ := A1 hW
  replace hB := bstep hB hb
  have R1 := Lib.hid (keep hb R1.out)
  have R3 := Lib.hid (keep hb R3.out)
  have KR := Lib.hid (KR.out.below hb)
  clear hb
  have R4 := Lib.hid R4
  clear hW hsz
  obtain ⟨c0, c1, f0, f1⟩ := row2 R1.out
  go_wp2_with fail
  clear c0 c1 f0 f1
  refine (HF.out _).mono ?_
  rintro e w2 ⟨fA, fS, fU, rfl, hA, hS, hU, hb⟩
  replace hB := bstep hB hb
  have KA := Lib.hid hA
  have KS := Lib.hid hS
  have KU := Lib.hid hU
  have KR := Lib.hid (KR.out.below hb)
  have R4 := Lib.hid (keep hb R4.out)
  have R3 := Lib.hid (keep hb R3.out)
  clear hb
  go_upto_region 5 with fail
  generalize hW : World.alloc _ _ = V2
  obtain ⟨hb, hsz, R5⟩ := A1 hW
  replace hB := bstep hB hb
  have R3 := Lib.hid (keep hb R3.out)
  have R4 := Lib.hid (keep hb R4.out)
  have KA := Lib.hid (KA.out.below hb)
  have KS := Lib.hid (KS.out.below hb)
  have KU := Lib.hid (KU.out.below hb)
  have KR := Lib.hid (KR.out.below hb)
  clear hb
  have R5 := Lib.hid R5
  clear hW hsz
  have LF := run_loadFr R5.out rfl
  obtain ⟨k0, k1, k2, k3, k4, k5, k6, k7, k8⟩ := rowc9 R4.out
  go_wp2_with fail
  clear LF k0 k1 k2 k3 k4 k5 k6 k7 k8
  refine (H1.out _ _ _ _ _ KA.out KS.out KU.out KR.out).mono ?_
  rintro e w3 ⟨s, rfl, hs, hb⟩
  replace hB := bstep hB hb
  have R3 := Lib.hid (keep hb R3.out)
  clear hb
  go_wp2_with fail
  refine (H2.out _ _ hs).mono ?_
  rintro e w4 ⟨rfl, hb⟩
  replace hB := bstep hB hb
  have R3 := Lib.hid (keep hb R3.out)
  clear hb
  obtain ⟨R3c0, R3c1, R3c2, R3f0, R3f1, R3f2⟩ := row3 R3.out
  go_wp2_with fail
  exact bodyPost_ret (res_ct rfl vec_row rfl (store3 R3.out _ _ _) rfl) rfl ⟨rfl, store3_below hB (by omega) _ _ _⟩

end Go.Proofs.YtgbabmkclojgeaaGreatDoor
