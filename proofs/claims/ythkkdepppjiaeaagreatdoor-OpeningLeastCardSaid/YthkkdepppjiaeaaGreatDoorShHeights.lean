/- A PART OF THE PROOF, JOINED OUT OF 4 TEXTS. -/
import Derived.Test.YthkkdepppjiaeaaGreatDoorSaOpening
import Derived.Test.YthkkdepppjiaeaaGreatDoorSbOpening
import Derived.Test.YthkkdepppjiaeaaGreatDoorQzRef
import Derived.Test.YthkkdepppjiaeaaGreatDoorRaFrameOf
import Derived.Test.YthkkdepppjiaeaaGreatDoorSgChecks
/- The reference of layer 31: HeightOf, Height, Level, Wet. -/
namespace Go.Proofs.YthkkdepppjiaeaaGreatDoor
open Go.RowKit Go.Shelf Go.Sort

attribute [local go_sem] Oper.semAt_some
attribute [local go_sem ↓ high] storeAt_fr loadAt_fr
attribute [local go_sem high] run_storeAt_fr run_storeAt_frN


set_option maxRecDepth 100000 in
set_option maxHeartbeats 4000000 in
theorem r31_HeightOf_bad1 (oi of ot ok : Int) (r0 r1 r2 : ByteArray) (h t : ByteArray) (v0 v1 v2 : Bool) (r : V3) (cc : Int) (w : World)
    (hv : ∀ W, Calls Tryz.prog 73 #[.agg #[.string r0, .string r1, .string r2]] W fun e w' => ∃ u : VS, e = .returned (.tuple #[.agg #[.bool v0, .slice u.x.p.A u.x.p.n u.x.p.c, .slice u.x.d.A u.x.d.n u.x.d.c, .bool v1, .slice u.y.p.A u.y.p.n u.y.p.c, .slice u.y.d.A u.y.d.n u.y.d.c, .bool v2, .slice u.z.p.A u.z.p.n u.z.p.c, .slice u.z.d.A u.z.d.n u.z.d.c], .bool false]) ∧ RV w' u r ∧ Below W.heap.size W w')
    (hf : ∀ w, Calls Tryz.prog 77 #[.agg #[.string h, .string t]] w fun e w' => e = .returned (.tuple #[.agg #[.bool false, .slice none 0 0, .slice none 0 0, .bool false, .slice none 0 0, .slice none 0 0, .bool false, .slice none 0 0, .slice none 0 0, .bool false, .slice none 0 0, .slice none 0 0, .bool false, .slice none 0 0, .slice none 0 0, .bool false, .slice none 0 0, .slice none 0 0, .bool false, .slice none 0 0, .slice none 0 0, .bool false, .slice none 0 0, .slice none 0 0, .bool false, .slice none 0 0, .slice none 0 0], .int .i64 cc]) ∧ Below w.heap.size w w') :
    Calls Tryz.prog 74 #[.agg #[.int .i64 oi, .int .i64 of, .int .i64 ot, .int .i64 ok, .string r0, .string r1, .string r2], .agg #[.string h, .string t]] w fun e w' => e = .returned (.tuple #[.agg #[.bool false, .slice none 0 0, .slice none 0 0], .int .i64 1]) ∧ Below w.heap.size w w' := by
  have HV := Lib.hid hv
  have HF := Lib.hid hf
  clear hv hf
  go_enter Tryz.func74, Tryz.ntmps74
  go_wp2_with fail
  generalize hW : ((World.alloc w _).alloc _).alloc _ = W
  obtain ⟨hB, hsz, R2, R3, R4⟩ := A3 hW
  have R2 := Lib.hid R2
  have R3 := Lib.hid R3
  have R4 := Lib.hid R4
  clear hW hsz
  obtain ⟨R2c0, R2c1, R2c2, R2c3, R2c4, R2c5, R2c6, R2f0, R2f1, R2f2, R2f3, R2f4, R2f5, R2f6⟩ := row7 R2.out
  go_wp2_with fail
  clear R2c0 R2c1 R2c2 R2c3 R2c4 R2c5 R2c6 R2f0 R2f1 R2f2 R2f3 R2f4 R2f5 R2f6
  refine (HV.out _).mono ?_
  rintro e w1 ⟨u, rfl, hu, hb⟩
  replace hB := bstep hB hb
  have KU := Lib.hid hu
  have R3 := Lib.hid (keep hb R3.out)
  have R4 := Lib.hid (keep hb R4.out)
  clear hb hu
  go_upto_region 2 with fail
  generalize hW : World.alloc _ _ = V
  obtain ⟨hb, hsz, R6⟩ := A1 hW
  replace hB := bstep hB hb
  have R3 := Lib.hid (keep hb R3.out)
  have R4 := Lib.hid (keep hb R4.out)
  have KU := Lib.hid (KU.out.below hb)
  clear hb
  have R6 := Lib.hid R6
  clear hW hsz
  obtain ⟨c0, c1, f0, f1⟩ := row2 R3.out
  go_wp2_with fail
  clear c0 c1 f0 f1
  refine (HF.out _).mono ?_
  rintro e w2 ⟨rfl, hb⟩
  replace hB := bstep hB hb
  have R4 := Lib.hid (keep hb R4.out)
  have R6 := Lib.hid (keep hb R6.out)
  have KU := Lib.hid (KU.out.below hb)
  clear hb
  go_upto_region 3 with fail
  generalize hW : World.alloc _ _ = V2
  obtain ⟨hb, hsz, R8⟩ := A1 hW
  replace hB := bstep hB hb
  have R4 := Lib.hid (keep hb R4.out)
  have R6 := Lib.hid (keep hb R6.out)
  have KU := Lib.hid (KU.out.below hb)
  clear hb
  have R8 := Lib.hid R8
  clear hW hsz
  obtain ⟨R4c0, R4c1, R4c2, R4f0, R4f1, R4f2⟩ := row3 R4.out
  go_wp2_with fail
  exact bodyPost_ret (res_ct rfl q_row rfl (store3 R4.out _ _ _) rfl) rfl ⟨rfl, store3_below hB (by omega) _ _ _⟩


set_option maxRecDepth 100000 in
set_option maxHeartbeats 4000000 in
theorem r31_HeightOf_bad2 (oi of ot ok : Int) (r0 r1 r2 : ByteArray) (h t : ByteArray) (v0 v1 v2 : Bool) (r : V3) (b0 b1 b2 b3 b4 b5 b6 b7 b8 : Bool) (A S U : V3) (w : World)
    (hv : ∀ W, Calls Tryz.prog 73 #[.agg #[.string r0, .string r1, .string r2]] W fun e w' => ∃ u : VS, e = .returned (.tuple #[.agg #[.bool v0, .slice u.x.p.A u.x.p.n u.x.p.c, .slice u.x.d.A u.x.d.n u.x.d.c, .bool v1, .slice u.y.p.A u.y.p.n u.y.p.c, .slice u.y.d.A u.y.d.n u.y.d.c, .bool v2, .slice u.z.p.A u.z.p.n u.z.p.c, .slice u.z.d.A u.z.d.n u.z.d.c], .bool false]) ∧ RV w' u r ∧ Below W.heap.size W w')
    (hf : ∀ w, Calls Tryz.prog 77 #[.agg #[.string h, .string t]] w fun e w' => ∃ fA fS fU : VS, e = .returned (.tuple #[.agg #[.bool b0, .slice fA.x.p.A fA.x.p.n fA.x.p.c, .slice fA.x.d.A fA.x.d.n fA.x.d.c, .bool b1, .slice fA.y.p.A fA.y.p.n fA.y.p.c, .slice fA.y.d.A fA.y.d.n fA.y.d.c, .bool b2, .slice fA.z.p.A fA.z.p.n fA.z.p.c, .slice fA.z.d.A fA.z.d.n fA.z.d.c, .bool b3, .slice fS.x.p.A fS.x.p.n fS.x.p.c, .slice fS.x.d.A fS.x.d.n fS.x.d.c, .bool b4, .slice fS.y.p.A fS.y.p.n fS.y.p.c, .slice fS.y.d.A fS.y.d.n fS.y.d.c, .bool b5, .slice fS.z.p.A fS.z.p.n fS.z.p.c, .slice fS.z.d.A fS.z.d.n fS.z.d.c, .bool b6, .slice fU.x.p.A fU.x.p.n fU.x.p.c, .slice fU.x.d.A fU.x.d.n fU.x.d.c, .bool b7, .slice fU.y.p.A fU.y.p.n fU.y.p.c, .slice fU.y.d.A fU.y.d.n fU.y.d.c, .bool b8, .slice fU.z.p.A fU.z.p.n fU.z.p.c, .slice fU.z.d.A fU.z.d.n fU.z.d.c], .int .i64 0]) ∧ RV w' fA A ∧ RV w' fS S ∧ RV w' fU U ∧ Below w.heap.size w w') :
    Calls Tryz.prog 74 #[.agg #[.int .i64 oi, .int .i64 of, .int .i64 ot, .int .i64 ok, .string r0, .string r1, .string r2], .agg #[.string h, .string t]] w fun e w' => e = .returned (.tuple #[.agg #[.bool false, .slice none 0 0, .slice none 0 0], .int .i64 1]) ∧ Below w.heap.size w w' := by
  have HV := Lib.hid hv
  have HF := Lib.hid hf
  clear hv hf
  go_enter Tryz.func74, Tryz.ntmps74
  go_wp2_with fail
  generalize hW : ((World.alloc w _).alloc _).alloc _ = W
  obtain ⟨hB, hsz, R2, R3, R4⟩ := A3 hW
  have R2 := Lib.hid R2
  have R3 := Lib.hid R3
  have R4 := Lib.hid R4
  clear hW hsz
  obtain ⟨R2c0, R2c1, R2c2, R2c3, R2c4, R2c5, R2c6, R2f0, R2f1, R2f2, R2f3, R2f4, R2f5, R2f6⟩ := row7 R2.out
  go_wp2_with fail
  clear R2c0 R2c1 R2c2 R2c3 R2c4 R2c5 R2c6 R2f0 R2f1 R2f2 R2f3 R2f4 R2f5 R2f6
  refine (HV.out _).mono ?_
  rintro e w1 ⟨u, rfl, hu, hb⟩
  replace hB := bstep hB hb
  have KU := Lib.hid hu
  have R3 := Lib.hid (keep hb R3.out)
  have R4 := Lib.hid (keep hb R4.out)
  clear hb hu
  go_upto_region 2 with fail
  generalize hW : World.alloc _ _ = V
  obtain ⟨hb, hsz, R6⟩ := A1 hW
  replace hB := bstep hB hb
  have R3 := Lib.hid (keep hb R3.out)
  have R4 := Lib.hid (keep hb R4.out)
  have KU := Lib.hid (KU.out.below hb)
  clear hb
  have R6 := Lib.hid R6
  clear hW hsz
  obtain ⟨c0, c1, f0, f1⟩ := row2 R3.out
  go_wp2_with fail
  clear c0 c1 f0 f1
  refine (HF.out _).mono ?_
  rintro e w2 ⟨fA, fS, fU, rfl, hA, hS, hU, hb⟩
  replace hB := bstep hB hb
  have R4 := Lib.hid (keep hb R4.out)
  have R6 := Lib.hid (keep hb R6.out)
  have KU := Lib.hid (KU.out.below hb)
  have KF := Lib.hid hU
  clear hb hA hS hU
  go_upto_region 3 with fail
  generalize hW : World.alloc _ _ = V2
  obtain ⟨hb, hsz, R8⟩ := A1 hW
  replace hB := bstep hB hb
  have R4 := Lib.hid (keep hb R4.out)
  have R6 := Lib.hid (keep hb R6.out)
  have KU := Lib.hid (KU.out.below hb)
  have KF := Lib.hid (KF.out.below hb)
  clear hb
  have R8 := Lib.hid R8
  clear hW hsz
  obtain ⟨R4c0, R4c1, R4c2, R4f0, R4f1, R4f2⟩ := row3 R4.out
  go_wp2_with fail
  exact bodyPost_ret (res_ct rfl q_row rfl (store3 R4.out _ _ _) rfl) rfl ⟨rfl, store3_below hB (by omega) _ _ _⟩


set_option maxRecDepth 100000 in
set_option maxHeartbeats 4000000 in
theorem r31_HeightOf_err (oi of ot ok : Int) (r0 r1 r2 : ByteArray) (h t : ByteArray) (v0 v1 v2 : Bool) (r : V3) (cc : Int) (w : World) (hc1 : (cc != 0) = true)
    (hv : ∀ W, Calls Tryz.prog 73 #[.agg #[.string r0, .string r1, .string r2]] W fun e w' => ∃ u : VS, e = .returned (.tuple #[.agg #[.bool v0, .slice u.x.p.A u.x.p.n u.x.p.c, .slice u.x.d.A u.x.d.n u.x.d.c, .bool v1, .slice u.y.p.A u.y.p.n u.y.p.c, .slice u.y.d.A u.y.d.n u.y.d.c, .bool v2, .slice u.z.p.A u.z.p.n u.z.p.c, .slice u.z.d.A u.z.d.n u.z.d.c], .bool true]) ∧ RV w' u r ∧ Below W.heap.size W w')
    (hf : ∀ w, Calls Tryz.prog 77 #[.agg #[.string h, .string t]] w fun e w' => e = .returned (.tuple #[.agg #[.bool false, .slice none 0 0, .slice none 0 0, .bool false, .slice none 0 0, .slice none 0 0, .bool false, .slice none 0 0, .slice none 0 0, .bool false, .slice none 0 0, .slice none 0 0, .bool false, .slice none 0 0, .slice none 0 0, .bool false, .slice none 0 0, .slice none 0 0, .bool false, .slice none 0 0, .slice none 0 0, .bool false, .slice none 0 0, .slice none 0 0, .bool false, .slice none 0 0, .slice none 0 0], .int .i64 cc]) ∧ Below w.heap.size w w') :
    Calls Tryz.prog 74 #[.agg #[.int .i64 oi, .int .i64 of, .int .i64 ot, .int .i64 ok, .string r0, .string r1, .string r2], .agg #[.string h, .string t]] w fun e w' => e = .returned (.tuple #[.agg #[.bool false, .slice none 0 0, .slice none 0 0], .int .i64 cc]) ∧ Below w.heap.size w w' := by
  have HV := Lib.hid hv
  have HF := Lib.hid hf
  clear hv hf
  go_enter Tryz.func74, Tryz.ntmps74
  go_wp2_with fail
  generalize hW : ((World.alloc w _).alloc _).alloc _ = W
  obtain ⟨hB, hsz, R2, R3, R4⟩ := A3 hW
  have R2 := Lib.hid R2
  have R3 := Lib.hid R3
  have R4 := Lib.hid R4
  clear hW hsz
  obtain ⟨R2c0, R2c1, R2c2, R2c3, R2c4, R2c5, R2c6, R2f0, R2f1, R2f2, R2f3, R2f4, R2f5, R2f6⟩ := row7 R2.out
  go_wp2_with fail
  clear R2c0 R2c1 R2c2 R2c3 R2c4 R2c5 R2c6 R2f0 R2f1 R2f2 R2f3 R2f4 R2f5 R2f6
  refine (HV.out _).mono ?_
  rintro e w1 ⟨u, rfl, hu, hb⟩
  replace hB := bstep hB hb
  have KU := Lib.hid hu
  have R3 := Lib.hid (keep hb R3.out)
  have R4 := Lib.hid (keep hb R4.out)
  clear hb hu
  go_upto_region 2 with fail
  generalize hW : World.alloc _ _ = V
  obtain ⟨hb, hsz, R6⟩ := A1 hW
  replace hB := bstep hB hb
  have R3 := Lib.hid (keep hb R3.out)
  have R4 := Lib.hid (keep hb R4.out)
  have KU := Lib.hid (KU.out.below hb)
  clear hb
  have R6 := Lib.hid R6
  clear hW hsz
  obtain ⟨c0, c1, f0, f1⟩ := row2 R3.out
  go_wp2_with fail
  clear c0 c1 f0 f1
  refine (HF.out _).mono ?_
  rintro e w2 ⟨rfl, hb⟩
  replace hB := bstep hB hb
  have R4 := Lib.hid (keep hb R4.out)
  have R6 := Lib.hid (keep hb R6.out)
  have KU := Lib.hid (KU.out.below hb)
  clear hb
  go_upto_region 3 with fail
  generalize hW : World.alloc _ _ = V2
  obtain ⟨hb, hsz, R8⟩ := A1 hW
  replace hB := bstep hB hb
  have R4 := Lib.hid (keep hb R4.out)
  have R6 := Lib.hid (keep hb R6.out)
  have KU := Lib.hid (KU.out.below hb)
  clear hb
  have R8 := Lib.hid R8
  clear hW hsz
  obtain ⟨R4c0, R4c1, R4c2, R4f0, R4f1, R4f2⟩ := row3 R4.out
  go_wp2_with fail
  exact bodyPost_ret (res_ct rfl q_row rfl (store3 R4.out _ _ _) rfl) rfl ⟨rfl, store3_below hB (by omega) _ _ _⟩


set_option maxRecDepth 100000 in
set_option maxHeartbeats 4000000 in
theorem r31_HeightOf_ok (oi of ot ok : Int) (r0 r1 r2 : ByteArray) (h t : ByteArray) (v0 v1 v2 : Bool) (r : V3) (b0 b1 b2 b3 b4 b5 b6 b7 b8 bq : Bool) (A S U : V3) (x : Rat) (w : World)
    (hv : ∀ W, Calls Tryz.prog 73 #[.agg #[.string r0, .string r1, .string r2]] W fun e w' => ∃ u : VS, e = .returned (.tuple #[.agg #[.bool v0, .slice u.x.p.A u.x.p.n u.x.p.c, .slice u.x.d.A u.x.d.n u.x.d.c, .bool v1, .slice u.y.p.A u.y.p.n u.y.p.c, .slice u.y.d.A u.y.d.n u.y.d.c, .bool v2, .slice u.z.p.A u.z.p.n u.z.p.c, .slice u.z.d.A u.z.d.n u.z.d.c], .bool true]) ∧ RV w' u r ∧ Below W.heap.size W w')
    (hf : ∀ w, Calls Tryz.prog 77 #[.agg #[.string h, .string t]] w fun e w' => ∃ fA fS fU : VS, e = .returned (.tuple #[.agg #[.bool b0, .slice fA.x.p.A fA.x.p.n fA.x.p.c, .slice fA.x.d.A fA.x.d.n fA.x.d.c, .bool b1, .slice fA.y.p.A fA.y.p.n fA.y.p.c, .slice fA.y.d.A fA.y.d.n fA.y.d.c, .bool b2, .slice fA.z.p.A fA.z.p.n fA.z.p.c, .slice fA.z.d.A fA.z.d.n fA.z.d.c, .bool b3, .slice fS.x.p.A fS.x.p.n fS.x.p.c, .slice fS.x.d.A fS.x.d.n fS.x.d.c, .bool b4, .slice fS.y.p.A fS.y.p.n fS.y.p.c, .slice fS.y.d.A fS.y.d.n fS.y.d.c, .bool b5, .slice fS.z.p.A fS.z.p.n fS.z.p.c, .slice fS.z.d.A fS.z.d.n fS.z.d.c, .bool b6, .slice fU.x.p.A fU.x.p.n fU.x.p.c, .slice fU.x.d.A fU.x.d.n fU.x.d.c, .bool b7, .slice fU.y.p.A fU.y.p.n fU.y.p.c, .slice fU.y.d.A fU.y.d.n fU.y.d.c, .bool b8, .slice fU.z.p.A fU.z.p.n fU.z.p.c, .slice fU.z.d.A fU.z.d.n fU.z.d.c], .int .i64 0]) ∧ RV w' fA A ∧ RV w' fS S ∧ RV w' fU U ∧ Below w.heap.size w w')
    (hd : ∀ W sa sb, RV W sa U → RV W sb r → Calls Tryz.prog 109 #[.agg #[.bool b6, .slice sa.x.p.A sa.x.p.n sa.x.p.c, .slice sa.x.d.A sa.x.d.n sa.x.d.c, .bool b7, .slice sa.y.p.A sa.y.p.n sa.y.p.c, .slice sa.y.d.A sa.y.d.n sa.y.d.c, .bool b8, .slice sa.z.p.A sa.z.p.n sa.z.p.c, .slice sa.z.d.A sa.z.d.n sa.z.d.c], .agg #[.bool v0, .slice sb.x.p.A sb.x.p.n sb.x.p.c, .slice sb.x.d.A sb.x.d.n sb.x.d.c, .bool v1, .slice sb.y.p.A sb.y.p.n sb.y.p.c, .slice sb.y.d.A sb.y.d.n sb.y.d.c, .bool v2, .slice sb.z.p.A sb.z.p.n sb.z.p.c, .slice sb.z.d.A sb.z.d.n sb.z.d.c]] W fun e w' => ∃ p d : Sl, e = .returned (qW bq p d) ∧ RQ w' p d x ∧ Below W.heap.size W w') :
    Calls Tryz.prog 74 #[.agg #[.int .i64 oi, .int .i64 of, .int .i64 ot, .int .i64 ok, .string r0, .string r1, .string r2], .agg #[.string h, .string t]] w fun e w' => ∃ p d : Sl, e = .returned (.tuple #[qW bq p d, .int .i64 0]) ∧ RQ w' p d x ∧ Below w.heap.size w w' := by
  have HV := Lib.hid hv
  have HF := Lib.hid hf
  have HD := Lib.hid hd
  clear hv hf hd
  go_enter Tryz.func74, Tryz.ntmps74
  go_wp2_with fail
  generalize hW : ((World.alloc w _).alloc _).alloc _ = W
  obtain ⟨hB, hsz, R2, R3, R4⟩ := A3 hW
  have R2 := Lib.hid R2
  have R3 := Lib.hid R3
  have R4 := Lib.hid R4
  clear hW hsz
  obtain ⟨R2c0, R2c1, R2c2, R2c3, R2c4, R2c5, R2c6, R2f0, R2f1, R2f2, R2f3, R2f4, R2f5, R2f6⟩ := row7 R2.out
  go_wp2_with fail
  clear R2c0 R2c1 R2c2 R2c3 R2c4 R2c5 R2c6 R2f0 R2f1 R2f2 R2f3 R2f4 R2f5 R2f6
  refine (HV.out _).mono ?_
  rintro e w1 ⟨u, rfl, hu, hb⟩
  replace hB := bstep hB hb
  have KU := Lib.hid hu
  have R3 := Lib.hid (keep hb R3.out)
  have R4 := Lib.hid (keep hb R4.out)
  clear hb hu
  go_upto_region 2 with fail
  generalize hW : World.alloc _ _ = V
  obtain ⟨hb, hsz, R6⟩ := A1 hW
  replace hB := bstep hB hb
  have R3 := Lib.hid (keep hb R3.out)
  have R4 := Lib.hid (keep hb R4.out)
  have KU := Lib.hid (KU.out.below hb)
  clear hb
  have R6 := Lib.hid R6
  clear hW hsz
  obtain ⟨c0, c1, f0, f1⟩ := row2 R3.out
  go_wp2_with fail
  clear c0 c1 f0 f1
  refine (HF.out _).mono ?_
  rintro e w2 ⟨fA, fS, fU, rfl, hA, hS, hU, hb⟩
  replace hB := bstep hB hb
  have R4 := Lib.hid (keep hb R4.out)
  have R6 := Lib.hid (keep hb R6.out)
  have KU := Lib.hid (KU.out.below hb)
  have KF := Lib.hid hU
  clear hb hA hS hU
  go_upto_region 3 with fail
  generalize hW : World.alloc _ _ = V2
  obtain ⟨hb, hsz, R8⟩ := A1 hW
  replace hB := bstep hB hb
  have R4 := Lib.hid (keep hb R4.out)
  have R6 := Lib.hid (keep hb R6.out)
  have KU := Lib.hid (KU.out.below hb)
  have KF := Lib.hid (KF.out.below hb)
  clear hb
  have R8 := Lib.hid R8
  clear hW hsz
  obtain ⟨x0, x1, x2, x3, x4, x5, x6, x7, x8, x9, x10, x11, x12, x13, x14, x15, x16, x17, x18, x19, x20, x21, x22, x23, x24, x25, x26⟩ := rowc27 R8.out
  obtain ⟨y0, y1, y2, y3, y4, y5, y6, y7, y8⟩ := rowc9 R6.out
  go_wp2_with fail
  clear x0 x1 x2 x3 x4 x5 x6 x7 x8 x9 x10 x11 x12 x13 x14 x15 x16 x17 x18 x19 x20 x21 x22 x23 x24 x25 x26
  clear y0 y1 y2 y3 y4 y5 y6 y7 y8
  refine (HD.out _ _ _ KF.out KU.out).mono ?_
  rintro e w3 ⟨p, d, rfl, hq, hb⟩
  replace hB := bstep hB hb
  have R4 := Lib.hid (keep hb R4.out)
  have KQ := Lib.hid hq
  clear hq
  clear hb
  obtain ⟨R4c0, R4c1, R4c2, R4f0, R4f1, R4f2⟩ := row3 R4.out
  go_wp2_with fail
  exact bodyPost_ret (res_ct rfl q_row rfl (store3 R4.out _ _ _) rfl) rfl ⟨_, _, rfl, KQ.out.store3 R4.out, store3_below hB (by omega) _ _ _⟩


theorem s40_sh6 {s : ByteArray × ByteArray × ByteArray} (h : S40 s) : Sh6 s := ⟨Nat.le_trans h.1 (by decide), Nat.le_trans h.2.1 (by decide), Nat.le_trans h.2.2 (by decide)⟩
/-- At most 40 bytes, all five. -/
def H40 (s : ByteArray × ByteArray) (r : ByteArray × ByteArray × ByteArray) : Prop := (s.1.size ≤ 40 ∧ s.2.size ≤ 40) ∧ S40 r
theorem H40.shH {s : ByteArray × ByteArray} {r : ByteArray × ByteArray × ByteArray} (h : H40 s r) : ShH s r :=
  ⟨Nat.le_trans h.1.1 (by decide), Nat.le_trans h.1.2 (by decide), Nat.le_trans h.2.1 (by decide), Nat.le_trans h.2.2.1 (by decide), Nat.le_trans h.2.2.2 (by decide)⟩
theorem r31_HeightOf_no (oi of ot ok : Int) (s : ByteArray × ByteArray) (r : ByteArray × ByteArray × ByteArray) (w : World) (hs : H40 s r) (hk : hokB s r = false) :
    Calls Tryz.prog 74 #[.agg #[.int .i64 oi, .int .i64 of, .int .i64 ot, .int .i64 ok, .string r.1, .string r.2.1, .string r.2.2], .agg #[.string s.1, .string s.2]] w fun e w' => e = .returned (.tuple #[.agg #[.bool false, .slice none 0 0, .slice none 0 0], .int .i64 (hcode s r)]) ∧ Below w.heap.size w w' := by
  have hV := fun W => r16_Vec r W (s40_sh6 hs.2)
  unfold txW vW at hV
  have u1 : s.1.size ≤ 100 := Nat.le_trans hs.1.1 (by decide)
  have u2 : s.2.size ≤ 100 := Nat.le_trans hs.1.2 (by decide)
  unfold hcode
  cases hr : vvB r with
  | false =>
    rw [hr] at hV
    rw [Bool.and_false, show acode false (inR (rvX s.1) (rvX s.2)) = 1 from rfl]
    cases hf : ((rvB s.1 && rvB s.2) && inR (rvX s.1) (rvX s.2)) with
    | false => exact r31_HeightOf_bad1 oi of ot ok r.1 r.2.1 r.2.2 s.1 s.2 _ _ _ _ _ w hV (fun W => r16_FrameOf_err s.1 s.2 W u1 u2 hf)
    | true => exact r31_HeightOf_bad2 oi of ot ok r.1 r.2.1 r.2.2 s.1 s.2 _ _ _ _ _ _ _ _ _ _ _ _ _ _ _ _ w hV (fun W => r16_FrameOf_yes s.1 s.2 W u1 u2 hf)
  | true =>
    rw [hr] at hV
    rw [Bool.and_true]
    have hf : ((rvB s.1 && rvB s.2) && inR (rvX s.1) (rvX s.2)) = false := by
      unfold hokB at hk
      rw [hr, Bool.and_true] at hk
      exact hk
    exact r31_HeightOf_err oi of ot ok r.1 r.2.1 r.2.2 s.1 s.2 _ _ _ _ _ w (acode_ne hf) hV (fun W => r16_FrameOf_err s.1 s.2 W u1 u2 hf)
theorem zup {s : ByteArray × ByteArray} {r : ByteArray × ByteArray × ByteArray} (hs : H40 s r) : Sz 100000 (upX s r) :=
  (szV_turn (sz_rvX hs.1.1 (by decide) : Sz 41 (rvX s.1)) (sz_rvX hs.1.2 (by decide) : Sz 41 (rvX s.2)) (⟨sz_rvX hs.2.1 (by decide), sz_rvX hs.2.2.1 (by decide), sz_rvX hs.2.2.2 (by decide)⟩ : SzV 41 (vvX r)) (by decide)).2.2.mono (by decide)
theorem r31_HeightOf_yes (oi of ot ok : Int) (s : ByteArray × ByteArray) (r : ByteArray × ByteArray × ByteArray) (w : World) (hs : H40 s r) (hk : hokB s r = true) :
    Calls Tryz.prog 74 #[.agg #[.int .i64 oi, .int .i64 of, .int .i64 ot, .int .i64 ok, .string r.1, .string r.2.1, .string r.2.2], .agg #[.string s.1, .string s.2]] w fun e w' => ∃ p d : Sl, e = .returned (.tuple #[qW (sgB (upX s r).num) p d, .int .i64 0]) ∧ RQ w' p d (upX s r) ∧ Below w.heap.size w w' := by
  have hV := fun W => r16_Vec r W (s40_sh6 hs.2)
  unfold txW vW at hV
  have hk0 := hk
  unfold hokB at hk
  rw [Bool.and_eq_true, Bool.and_eq_true] at hk
  rw [hk.1.2] at hV
  have z1 : Sz 41 (rvX s.1) := sz_rvX hs.1.1 (by decide)
  have z2 : Sz 41 (rvX s.2) := sz_rvX hs.1.2 (by decide)
  have zr : SzV 41 (vvX r) := ⟨sz_rvX hs.2.1 (by decide), sz_rvX hs.2.2.1 (by decide), sz_rvX hs.2.2.2 (by decide)⟩
  have hD := fun W sa sb (k1 : RV W sa (axU (rvX s.1) (rvX s.2))) (k2 : RV W sb (vvX r)) => r16_Dot _ _ sa sb W k1 k2 ((szV_axU z1 z2).mono (by decide)) (zr.mono (by decide))
  unfold vW at hD
  exact r31_HeightOf_ok oi of ot ok r.1 r.2.1 r.2.2 s.1 s.2 _ _ _ _ _ _ _ _ _ _ _ _ _ _ _ _ _ _ w hV (fun W => r16_FrameOf_yes s.1 s.2 W (Nat.le_trans hs.1.1 (by decide)) (Nat.le_trans hs.1.2 (by decide)) (by rw [hk.1.1, hk.2]; rfl)) hD


set_option maxRecDepth 100000 in
set_option maxHeartbeats 4000000 in
theorem r31_Height_err (oi of ot ok : Int) (r0 r1 r2 : ByteArray) (h t : ByteArray) (cc : Int) (w : World) (hc1 : (cc != 0) = true)
    (hh : ∀ w, Calls Tryz.prog 74 #[.agg #[.int .i64 oi, .int .i64 of, .int .i64 ot, .int .i64 ok, .string r0, .string r1, .string r2], .agg #[.string h, .string t]] w fun e w' => e = .returned (.tuple #[.agg #[.bool false, .slice none 0 0, .slice none 0 0], .int .i64 cc]) ∧ Below w.heap.size w w') :
    Calls Tryz.prog 33 #[.agg #[.int .i64 oi, .int .i64 of, .int .i64 ot, .int .i64 ok, .string r0, .string r1, .string r2], .agg #[.string h, .string t]] w fun e w' => e = .returned (.tuple #[.string ⟨#[]⟩, .int .i64 cc]) ∧ Below w.heap.size w w' := by
  have HH := Lib.hid hh
  clear hh
  go_enter Tryz.func33, Tryz.ntmps33
  go_upto_region 1 with fail
  generalize hW : (World.alloc w _).alloc _ = W
  obtain ⟨hB, hsz, R2, R3⟩ := A2 hW
  have R2 := Lib.hid R2
  have R3 := Lib.hid R3
  clear hW hsz
  obtain ⟨R2c0, R2c1, R2c2, R2c3, R2c4, R2c5, R2c6, R2f0, R2f1, R2f2, R2f3, R2f4, R2f5, R2f6⟩ := row7 R2.out
  obtain ⟨R3c0, R3c1, R3f0, R3f1⟩ := row2 R3.out
  go_wp2_with fail
  clear R2c0 R2c1 R2c2 R2c3 R2c4 R2c5 R2c6 R2f0 R2f1 R2f2 R2f3 R2f4 R2f5 R2f6
  clear R3c0 R3c1 R3f0 R3f1
  refine (HH.out _).mono ?_
  rintro e w1 ⟨rfl, hb⟩
  replace hB := bstep hB hb
  clear hb
  go_wp2_with fail
  go_ret2
  exact ⟨rfl, bstep hB (A1 rfl).1⟩


set_option maxRecDepth 100000 in
set_option maxHeartbeats 4000000 in
theorem r31_Height_ok (oi of ot ok : Int) (r0 r1 r2 : ByteArray) (h t z : ByteArray) (bq : Bool) (x : Rat) (w : World)
    (hh : ∀ w, Calls Tryz.prog 74 #[.agg #[.int .i64 oi, .int .i64 of, .int .i64 ot, .int .i64 ok, .string r0, .string r1, .string r2], .agg #[.string h, .string t]] w fun e w' => ∃ p d : Sl, e = .returned (.tuple #[qW bq p d, .int .i64 0]) ∧ RQ w' p d x ∧ Below w.heap.size w w')
    (hz : ∀ W p d, RQ W p d x → Calls Tryz.prog 21 #[qW bq p d] W fun e w' => e = .returned (.string z) ∧ Below W.heap.size W w') :
    Calls Tryz.prog 33 #[.agg #[.int .i64 oi, .int .i64 of, .int .i64 ot, .int .i64 ok, .string r0, .string r1, .string r2], .agg #[.string h, .string t]] w fun e w' => e = .returned (.tuple #[.string z, .int .i64 0]) ∧ Below w.heap.size w w' := by
  have HH := Lib.hid hh
  have HZ := Lib.hid hz
  clear hh hz
  go_enter Tryz.func33, Tryz.ntmps33
  go_upto_region 1 with fail
  generalize hW : (World.alloc w _).alloc _ = W
  obtain ⟨hB, hsz, R2, R3⟩ := A2 hW
  have R2 := Lib.hid R2
  have R3 := Lib.hid R3
  clear hW hsz
  obtain ⟨R2c0, R2c1, R2c2, R2c3, R2c4, R2c5, R2c6, R2f0, R2f1, R2f2, R2f3, R2f4, R2f5, R2f6⟩ := row7 R2.out
  obtain ⟨R3c0, R3c1, R3f0, R3f1⟩ := row2 R3.out
  go_wp2_with fail
  clear R2c0 R2c1 R2c2 R2c3 R2c4 R2c5 R2c6 R2f0 R2f1 R2f2 R2f3 R2f4 R2f5 R2f6
  clear R3c0 R3c1 R3f0 R3f1
  refine (HH.out _).mono ?_
  rintro e w1 ⟨p, d, rfl, hq, hb⟩
  replace hB := bstep hB hb
  have KQ := Lib.hid hq
  clear hq
  clear hb
  go_upto_region 4 with fail
  generalize hW : World.alloc _ _ = V
  obtain ⟨hb, hsz, R6⟩ := A1 hW
  replace hB := bstep hB hb
  have KQ := Lib.hid (KQ.out.below hb)
  clear hb
  have R6 := Lib.hid R6
  clear hW hsz
  obtain ⟨R6c0, R6c1, R6c2, R6f0, R6f1, R6f2⟩ := row3 R6.out
  go_wp2_with fail
  clear R6c0 R6c1 R6c2 R6f0 R6f1 R6f2
  refine (HZ.out _ _ _ KQ.out).mono ?_
  rintro e w2 ⟨rfl, hb⟩
  replace hB := bstep hB hb
  clear hb
  go_wp2_with fail
  go_ret2
  exact ⟨rfl, hB⟩


theorem r31_HeightA (oi of ot ok : Int) (s : ByteArray × ByteArray) (r : ByteArray × ByteArray × ByteArray) (w : World) (hs : H40 s r) :
    Calls Tryz.prog 33 #[.agg #[.int .i64 oi, .int .i64 of, .int .i64 ot, .int .i64 ok, .string r.1, .string r.2.1, .string r.2.2], .agg #[.string s.1, .string s.2]] w fun e w' => e = .returned (.tuple #[.string (hgtR (hokB s r) (upX s r)), .int .i64 (hcode s r)]) ∧ Below w.heap.size w w' := by
  cases hk : hokB s r with
  | false => exact r31_Height_err oi of ot ok r.1 r.2.1 r.2.2 s.1 s.2 _ w (hcode_ne hk) (fun w => r31_HeightOf_no oi of ot ok s r w hs hk)
  | true =>
    rw [hcode_yes hk]
    unfold hgtR
    rw [if_pos rfl]
    exact r31_Height_ok oi of ot ok r.1 r.2.1 r.2.2 s.1 s.2 _ _ _ w (fun w => r31_HeightOf_yes oi of ot ok s r w hs hk) (fun W p d k => r3_To _ p d W k ((zup hs).mono (by decide)))

set_option maxRecDepth 100000 in
set_option maxHeartbeats 8000000 in
theorem r31_Level_bad (lo hi : ByteArray) (bx by_ : Bool) (x y : Rat) (cc : Int) (w : World) (hc1 : (cc == 0) = false)
    (hb0 : ∀ W, Calls Tryz.prog 17 #[.string lo, .string hi] W fun e w' => ∃ p d s t : Sl, e = .returned (.tuple #[qW bx p d, qW by_ s t, .int .i64 cc]) ∧ RQ w' p d x ∧ RQ w' s t y ∧ Below W.heap.size W w') :
    Calls Tryz.prog 75 #[.agg #[.string lo, .string hi]] w fun e w' => ∃ p d s t : Sl, e = .returned (.tuple #[qW bx p d, qW by_ s t, .bool false]) ∧ RQ w' p d x ∧ RQ w' s t y ∧ Below w.heap.size w w' := by
  have HB0 := Lib.hid hb0
  clear hb0
  go_enter Tryz.func75, Tryz.ntmps75
  go_wp2_with fail
  generalize hW : ((World.alloc w _).alloc _).alloc _ = W
  obtain ⟨hB, hsz, R1, R2, R3⟩ := A3 hW
  have R1 := Lib.hid R1
  have R2 := Lib.hid R2
  have R3 := Lib.hid R3
  clear hW hsz
  obtain ⟨R1c0, R1c1, R1f0, R1f1⟩ := row2 R1.out
  go_wp2_with fail
  clear R1c0 R1c1 R1f0 R1f1
  refine (HB0.out _).mono ?_
  rintro e w1 ⟨p, d, s, t, rfl, k0, k1, hb⟩
  replace hB := bstep hB hb
  have R2 := Lib.hid (keep hb R2.out)
  have R3 := Lib.hid (keep hb R3.out)
  have K0 := Lib.hid k0
  have K1 := Lib.hid k1
  clear hb k0 k1
  go_upto_region 2 with fail
  have L3 := lt_of_row R3.out
  generalize hW : (World.alloc _ _).alloc _ = V
  obtain ⟨hb, hsz, R5, R6⟩ := A2 hW
  replace hB := bstep hB hb
  have R2 := Lib.hid (keep hb R2.out)
  have R3 := Lib.hid (keep hb R3.out)
  have K0 := Lib.hid (K0.out.below hb)
  have K1 := Lib.hid (K1.out.below hb)
  clear hb
  have R5 := Lib.hid R5
  have R6 := Lib.hid R6
  clear hW hsz
  have n1 : ¬ w1.heap.size = w.heap.size + 1 := by omega
  have n2 : ¬ w1.heap.size = w.heap.size + 2 := by omega
  have n3 : ¬ w1.heap.size + 1 = w.heap.size + 1 := by omega
  have n4 : ¬ w1.heap.size + 1 = w.heap.size + 2 := by omega
  have n5 : ¬ w.heap.size + 1 = w1.heap.size := fun h => n1 h.symm
  have n6 : ¬ w.heap.size + 2 = w1.heap.size := fun h => n2 h.symm
  have n7 : ¬ w.heap.size + 1 = w1.heap.size + 1 := fun h => n3 h.symm
  have n8 : ¬ w.heap.size + 2 = w1.heap.size + 1 := fun h => n4 h.symm
  have HB := Lib.hid hB
  clear hB L3
  obtain ⟨R2c0, R2c1, R2c2, R2f0, R2f1, R2f2⟩ := row3 R2.out
  obtain ⟨R3c0, R3c1, R3c2, R3f0, R3f1, R3f2⟩ := row3 R3.out
  obtain ⟨x0, x1, x2⟩ := rowc3 R5.out
  obtain ⟨y0, y1, y2⟩ := rowc3 R6.out
  go_region
  all_goals
    go_wp2_with fail
    generalize hZ : World.drew _ = Z
    obtain ⟨E4, E5⟩ := pair3a hZ (by omega) R2.out R3.out
    have k0 := pair3q hZ (by omega) R2.out R3.out K0.out
    have k1 := pair3q hZ (by omega) R2.out R3.out K1.out
    have hB := pair3b hZ (by omega) (by omega) HB.out
    clear hZ
    exact bodyPost_ret (res_cct rfl q_row q_row rfl rfl E4 E5 rfl rfl) rfl ⟨_, _, _, _, rfl, k0, k1, hB⟩


set_option maxRecDepth 100000 in
set_option maxHeartbeats 8000000 in
theorem r31_Level_ok (lo hi : ByteArray) (bx by_ v : Bool) (x y : Rat) (w : World)
    (hb0 : ∀ W, Calls Tryz.prog 17 #[.string lo, .string hi] W fun e w' => ∃ p d s t : Sl, e = .returned (.tuple #[qW bx p d, qW by_ s t, .int .i64 0]) ∧ RQ w' p d x ∧ RQ w' s t y ∧ Below W.heap.size W w')
    (hl : ∀ W a b c d, RQ W a b y → RQ W c d x → Calls Tryz.prog 19 #[qW by_ a b, qW bx c d] W fun e w' => e = .returned (.bool v) ∧ Below W.heap.size W w') :
    Calls Tryz.prog 75 #[.agg #[.string lo, .string hi]] w fun e w' => ∃ p d s t : Sl, e = .returned (.tuple #[qW bx p d, qW by_ s t, .bool (!v)]) ∧ RQ w' p d x ∧ RQ w' s t y ∧ Below w.heap.size w w' := by
  have HB0 := Lib.hid hb0
  have HL := Lib.hid hl
  clear hb0 hl
  go_enter Tryz.func75, Tryz.ntmps75
  go_wp2_with fail
  generalize hW : ((World.alloc w _).alloc _).alloc _ = W
  obtain ⟨hB, hsz, R1, R2, R3⟩ := A3 hW
  have R1 := Lib.hid R1
  have R2 := Lib.hid R2
  have R3 := Lib.hid R3
  clear hW hsz
  obtain ⟨R1c0, R1c1, R1f0, R1f1⟩ := row2 R1.out
  go_wp2_with fail
  clear R1c0 R1c1 R1f0 R1f1
  refine (HB0.out _).mono ?_
  rintro e w1 ⟨p, d, s, t, rfl, k0, k1, hb⟩
  replace hB := bstep hB hb
  have R2 := Lib.hid (keep hb R2.out)
  have R3 := Lib.hid (keep hb R3.out)
  have K0 := Lib.hid k0
  have K1 := Lib.hid k1
  clear hb k0 k1
  go_upto_region 2 with fail
  have L3 := lt_of_row R3.out
  generalize hW : (World.alloc _ _).alloc _ = V
  obtain ⟨hb, hsz, R5, R6⟩ := A2 hW
  replace hB := bstep hB hb
  have R2 := Lib.hid (keep hb R2.out)
  have R3 := Lib.hid (keep hb R3.out)
  have K0 := Lib.hid (K0.out.below hb)
  have K1 := Lib.hid (K1.out.below hb)
  clear hb
  have R5 := Lib.hid R5
  have R6 := Lib.hid R6
  clear hW hsz
  have M5 := Lib.hid (show w1.heap.size ≠ w.heap.size + 1 by omega)
  have M52 := Lib.hid (show w1.heap.size ≠ w.heap.size + 2 by omega)
  have M6 := Lib.hid (show w1.heap.size + 1 ≠ w.heap.size + 1 by omega)
  have M62 := Lib.hid (show w1.heap.size + 1 ≠ w.heap.size + 2 by omega)
  have HL1 := Lib.hid (fun W a b c d k1 k2 => HL.out W a b c d k1 k2)
  clear L3 HL
  have LR5 := fun (w' : World) (h : Ap (w.heap.size + 1) (w.heap.size + 2) V w') => rowc3 (h.row R5.out M5.out M52.out)
  have LR6 := fun (w' : World) (h : Ap (w.heap.size + 1) (w.heap.size + 2) V w') => rowc3 (h.row R6.out M6.out M62.out)
  have hvr := Below.refl V.heap.size V
  have hv0 := hvr.drew
  first
  | go_region_held3 (fun w' => Ap (w.heap.size + 1) (w.heap.size + 2) V w') (first | (with_reducible assumption) | (with_reducible exact Ap.refl _ _ _) | ((repeat (first | with_reducible assumption | with_reducible exact Ap.refl _ _ _ | with_reducible refine Ap.drew ?_ | with_reducible refine Ap.alloc ?_ | with_reducible refine Ap.set1 ?_ | with_reducible refine Ap.set2 ?_ | with_reducible refine Ap.setN (by first | with_reducible assumption | with_reducible exact Nat.le_refl _ | with_reducible exact Nat.le_add_right _ _ | with_reducible exact Nat.le_trans (by assumption) (Nat.le_add_right _ _)) ?_)); done))
      (first
        | (go_at_call 19; (with_reducible refine (HL1.out _  _ _ _ _ (by first | with_reducible exact K1.out | with_reducible exact (K1.out.below (Below.drew (Below.refl _ _)))) (by first | with_reducible exact K0.out | with_reducible exact (K0.out.below (Below.drew (Below.refl _ _))))).mono ?_); rintro e wq0 ⟨rfl, hb⟩; have hv1 : Below V.heap.size V wq0 := (by first | with_reducible exact bstep (hv0) hb); have hs1 := Ap.of_below (g := w.heap.size + 1) (h := w.heap.size + 2) hv1; have sz1 := hv1.size; have K0 := Lib.hid (by first | with_reducible exact K0.out.below hb | with_reducible exact (K0.out.below (Below.drew (Below.refl _ _))).below hb); have K1 := Lib.hid (by first | with_reducible exact K1.out.below hb | with_reducible exact (K1.out.below (Below.drew (Below.refl _ _))).below hb); have RoX2 := keep hv1 R2.out; obtain ⟨a0, a1, a2, a3, a4, a5⟩ := row3 RoX2; have RoX3 := keep hv1 R3.out; obtain ⟨b0, b1, b2, b3, b4, b5⟩ := row3 RoX3; clear hb))
  | fail
  all_goals
    go_wp2_with fail
    have E := eC (V := w) (bstep hB hv1) RoX2 RoX3 (by omega) (by omega) (by omega) bx by_ (.slice p.A p.n p.c) (.slice d.A d.n d.c) (.slice s.A s.n s.c) (.slice t.A t.n t.c)
    exact bodyPost_ret (res_cct rfl q_row q_row rfl rfl E.1 E.2.1 rfl rfl) rfl ⟨_, _, _, _, rfl, E.2.2.2 _ _ _ K0.out, E.2.2.2 _ _ _ K1.out, E.2.2.1⟩

end Go.Proofs.YthkkdepppjiaeaaGreatDoor

/- The reference of layer 31: Wet; the lowest opening of a list; the program's Lowest. -/
namespace Go.Proofs.YthkkdepppjiaeaaGreatDoor
open Go.RowKit Go.Shelf Go.Sort

attribute [local go_sem] Oper.semAt_some


set_option maxRecDepth 100000 in
set_option maxHeartbeats 4000000 in
theorem r31_Wet_err (oi of ot ok : Int) (r0 r1 r2 : ByteArray) (h t lo hi : ByteArray) (bl bh v : Bool) (xl xh : Rat) (cc : Int) (w : World) (hc1 : (cc != 0) = true)
    (hl : ∀ W, Calls Tryz.prog 75 #[.agg #[.string lo, .string hi]] W fun e w' => ∃ p d s t : Sl, e = .returned (.tuple #[qW bl p d, qW bh s t, .bool v]) ∧ RQ w' p d xl ∧ RQ w' s t xh ∧ Below W.heap.size W w')
    (hh : ∀ W, Calls Tryz.prog 74 #[.agg #[.int .i64 oi, .int .i64 of, .int .i64 ot, .int .i64 ok, .string r0, .string r1, .string r2], .agg #[.string h, .string t]] W fun e w' => e = .returned (.tuple #[.agg #[.bool false, .slice none 0 0, .slice none 0 0], .int .i64 cc]) ∧ Below W.heap.size W w') :
    Calls Tryz.prog 34 #[.agg #[.int .i64 oi, .int .i64 of, .int .i64 ot, .int .i64 ok, .string r0, .string r1, .string r2], .agg #[.string h, .string t, .string lo, .string hi]] w fun e w' => e = .returned (.tuple #[.int .i64 0, .int .i64 (if v = true then cc else 1)]) ∧ Below w.heap.size w w' := by
  have HL := Lib.hid hl
  have HH := Lib.hid hh
  clear hl hh

  cases v
  · rw [if_neg (by decide)]
    go_enter Tryz.func34, Tryz.ntmps34
    go_upto_region 1 with fail
    generalize hW : (World.alloc w _).alloc _ = W
    obtain ⟨hB, hsz, R2, R3⟩ := A2 hW
    have R2 := Lib.hid R2
    have R3 := Lib.hid R3
    clear hW hsz
    obtain ⟨R3c0, R3c1, R3c2, R3c3, R3f0, R3f1, R3f2, R3f3⟩ := row4 R3.out
    go_wp2_with fail
    clear R3c0 R3c1 R3c2 R3c3 R3f0 R3f1 R3f2 R3f3
    refine (HL.out _).mono ?_
    rintro e w1 ⟨p0, d0, p1, d1, rfl, k0, k1, hb⟩
    replace hB := bstep hB hb
    have R2 := Lib.hid (keep hb R2.out)
    have R3 := Lib.hid (keep hb R3.out)
    have K0 := Lib.hid k0
    have K1 := Lib.hid k1
    clear hb k0 k1
    go_upto_region 2 with fail
    generalize hW : (World.alloc _ _).alloc _ = V
    obtain ⟨hb, hsz, R6, R7⟩ := A2 hW
    replace hB := bstep hB hb
    have R2 := Lib.hid (keep hb R2.out)
    have R3 := Lib.hid (keep hb R3.out)
    have K0 := Lib.hid (K0.out.below hb)
    have K1 := Lib.hid (K1.out.below hb)
    clear hb
    have R6 := Lib.hid R6
    have R7 := Lib.hid R7
    clear hW hsz
    obtain ⟨R2c0, R2c1, R2c2, R2c3, R2c4, R2c5, R2c6, R2f0, R2f1, R2f2, R2f3, R2f4, R2f5, R2f6⟩ := row7 R2.out
    obtain ⟨R3c0, R3c1, R3c2, R3c3, R3f0, R3f1, R3f2, R3f3⟩ := row4 R3.out
    go_wp2_with fail
    clear R2c0 R2c1 R2c2 R2c3 R2c4 R2c5 R2c6 R2f0 R2f1 R2f2 R2f3 R2f4 R2f5 R2f6
    clear R3c0 R3c1 R3c2 R3c3 R3f0 R3f1 R3f2 R3f3
    refine (HH.out _).mono ?_
    rintro e w2 ⟨rfl, hb⟩
    replace hB := bstep hB hb
    have R6 := Lib.hid (keep hb R6.out)
    have R7 := Lib.hid (keep hb R7.out)
    have K0 := Lib.hid (K0.out.below hb)
    have K1 := Lib.hid (K1.out.below hb)
    clear hb
    go_upto_region 3 with fail
    generalize hW : World.alloc _ _ = V2
    obtain ⟨hb, hsz, R9⟩ := A1 hW
    replace hB := bstep hB hb
    have R6 := Lib.hid (keep hb R6.out)
    have R7 := Lib.hid (keep hb R7.out)
    have K0 := Lib.hid (K0.out.below hb)
    have K1 := Lib.hid (K1.out.below hb)
    clear hb
    have R9 := Lib.hid R9
    clear hW hsz
    go_wp2_with fail
    go_ret2
    exact ⟨rfl, hB⟩
  · rw [if_pos rfl]
    cases hc2 : (cc == 1)
    · skip
      go_enter Tryz.func34, Tryz.ntmps34
      go_upto_region 1 with fail
      generalize hW : (World.alloc w _).alloc _ = W
      obtain ⟨hB, hsz, R2, R3⟩ := A2 hW
      have R2 := Lib.hid R2
      have R3 := Lib.hid R3
      clear hW hsz
      obtain ⟨R3c0, R3c1, R3c2, R3c3, R3f0, R3f1, R3f2, R3f3⟩ := row4 R3.out
      go_wp2_with fail
      clear R3c0 R3c1 R3c2 R3c3 R3f0 R3f1 R3f2 R3f3
      refine (HL.out _).mono ?_
      rintro e w1 ⟨p0, d0, p1, d1, rfl, k0, k1, hb⟩
      replace hB := bstep hB hb
      have R2 := Lib.hid (keep hb R2.out)
      have R3 := Lib.hid (keep hb R3.out)
      have K0 := Lib.hid k0
      have K1 := Lib.hid k1
      clear hb k0 k1
      go_upto_region 2 with fail
      generalize hW : (World.alloc _ _).alloc _ = V
      obtain ⟨hb, hsz, R6, R7⟩ := A2 hW
      replace hB := bstep hB hb
      have R2 := Lib.hid (keep hb R2.out)
      have R3 := Lib.hid (keep hb R3.out)
      have K0 := Lib.hid (K0.out.below hb)
      have K1 := Lib.hid (K1.out.below hb)
      clear hb
      have R6 := Lib.hid R6
      have R7 := Lib.hid R7
      clear hW hsz
      obtain ⟨R2c0, R2c1, R2c2, R2c3, R2c4, R2c5, R2c6, R2f0, R2f1, R2f2, R2f3, R2f4, R2f5, R2f6⟩ := row7 R2.out
      obtain ⟨R3c0, R3c1, R3c2, R3c3, R3f0, R3f1, R3f2, R3f3⟩ := row4 R3.out
      go_wp2_with fail
      clear R2c0 R2c1 R2c2 R2c3 R2c4 R2c5 R2c6 R2f0 R2f1 R2f2 R2f3 R2f4 R2f5 R2f6
      clear R3c0 R3c1 R3c2 R3c3 R3f0 R3f1 R3f2 R3f3
      refine (HH.out _).mono ?_
      rintro e w2 ⟨rfl, hb⟩
      replace hB := bstep hB hb
      have R6 := Lib.hid (keep hb R6.out)
      have R7 := Lib.hid (keep hb R7.out)
      have K0 := Lib.hid (K0.out.below hb)
      have K1 := Lib.hid (K1.out.below hb)
      clear hb
      go_upto_region 3 with fail
      generalize hW : World.alloc _ _ = V2
      obtain ⟨hb, hsz, R9⟩ := A1 hW
      replace hB := bstep hB hb
      have R6 := Lib.hid (keep hb R6.out)
      have R7 := Lib.hid (keep hb R7.out)
      have K0 := Lib.hid (K0.out.below hb)
      have K1 := Lib.hid (K1.out.below hb)
      clear hb
      have R9 := Lib.hid R9
      clear hW hsz
      go_wp2_with fail
      go_ret2
      exact ⟨rfl, hB⟩
    · obtain rfl : cc = 1 := by simpa using hc2
      go_enter Tryz.func34, Tryz.ntmps34
      go_upto_region 1 with fail
      generalize hW : (World.alloc w _).alloc _ = W
      obtain ⟨hB, hsz, R2, R3⟩ := A2 hW
      have R2 := Lib.hid R2
      have R3 := Lib.hid R3
      clear hW hsz
      obtain ⟨R3c0, R3c1, R3c2, R3c3, R3f0, R3f1, R3f2, R3f3⟩ := row4 R3.out
      go_wp2_with fail
      clear R3c0 R3c1 R3c2 R3c3 R3f0 R3f1 R3f2 R3f3
      refine (HL.out _).mono ?_
      rintro e w1 ⟨p0, d0, p1, d1, rfl, k0, k1, hb⟩
      replace hB := bstep hB hb
      have R2 := Lib.hid (keep hb R2.out)
      have R3 := Lib.hid (keep hb R3.out)
      have K0 := Lib.hid k0
      have K1 := Lib.hid k1
      clear hb k0 k1
      go_upto_region 2 with fail
      generalize hW : (World.alloc _ _).alloc _ = V
      obtain ⟨hb, hsz, R6, R7⟩ := A2 hW
      replace hB := bstep hB hb
      have R2 := Lib.hid (keep hb R2.out)
      have R3 := Lib.hid (keep hb R3.out)
      have K0 := Lib.hid (K0.out.below hb)
      have K1 := Lib.hid (K1.out.below hb)
      clear hb
      have R6 := Lib.hid R6
      have R7 := Lib.hid R7
      clear hW hsz
      obtain ⟨R2c0, R2c1, R2c2, R2c3, R2c4, R2c5, R2c6, R2f0, R2f1, R2f2, R2f3, R2f4, R2f5, R2f6⟩ := row7 R2.out
      obtain ⟨R3c0, R3c1, R3c2, R3c3, R3f0, R3f1, R3f2, R3f3⟩ := row4 R3.out
      go_wp2_with fail
      clear R2c0 R2c1 R2c2 R2c3 R2c4 R2c5 R2c6 R2f0 R2f1 R2f2 R2f3 R2f4 R2f5 R2f6
      clear R3c0 R3c1 R3c2 R3c3 R3f0 R3f1 R3f2 R3f3
      refine (HH.out _).mono ?_
      rintro e w2 ⟨rfl, hb⟩
      replace hB := bstep hB hb
      have R6 := Lib.hid (keep hb R6.out)
      have R7 := Lib.hid (keep hb R7.out)
      have K0 := Lib.hid (K0.out.below hb)
      have K1 := Lib.hid (K1.out.below hb)
      clear hb
      go_upto_region 3 with fail
      generalize hW : World.alloc _ _ = V2
      obtain ⟨hb, hsz, R9⟩ := A1 hW
      replace hB := bstep hB hb
      have R6 := Lib.hid (keep hb R6.out)
      have R7 := Lib.hid (keep hb R7.out)
      have K0 := Lib.hid (K0.out.below hb)
      have K1 := Lib.hid (K1.out.below hb)
      clear hb
      have R9 := Lib.hid R9
      clear hW hsz
      go_wp2_with fail
      go_ret2
      exact ⟨rfl, hB⟩


set_option maxRecDepth 100000 in
set_option maxHeartbeats 4000000 in
theorem r31_Wet_bad (oi of ot ok : Int) (r0 r1 r2 : ByteArray) (h t lo hi : ByteArray) (bl bh bq : Bool) (xl xh x : Rat) (w : World)
    (hl : ∀ W, Calls Tryz.prog 75 #[.agg #[.string lo, .string hi]] W fun e w' => ∃ p d s t : Sl, e = .returned (.tuple #[qW bl p d, qW bh s t, .bool false]) ∧ RQ w' p d xl ∧ RQ w' s t xh ∧ Below W.heap.size W w')
    (hh : ∀ W, Calls Tryz.prog 74 #[.agg #[.int .i64 oi, .int .i64 of, .int .i64 ot, .int .i64 ok, .string r0, .string r1, .string r2], .agg #[.string h, .string t]] W fun e w' => ∃ p d : Sl, e = .returned (.tuple #[qW bq p d, .int .i64 0]) ∧ RQ w' p d x ∧ Below W.heap.size W w') :
    Calls Tryz.prog 34 #[.agg #[.int .i64 oi, .int .i64 of, .int .i64 ot, .int .i64 ok, .string r0, .string r1, .string r2], .agg #[.string h, .string t, .string lo, .string hi]] w fun e w' => e = .returned (.tuple #[.int .i64 0, .int .i64 1]) ∧ Below w.heap.size w w' := by
  have HL := Lib.hid hl
  have HH := Lib.hid hh
  clear hl hh

  go_enter Tryz.func34, Tryz.ntmps34
  go_upto_region 1 with fail
  generalize hW : (World.alloc w _).alloc _ = W
  obtain ⟨hB, hsz, R2, R3⟩ := A2 hW
  have R2 := Lib.hid R2
  have R3 := Lib.hid R3
  clear hW hsz
  obtain ⟨R3c0, R3c1, R3c2, R3c3, R3f0, R3f1, R3f2, R3f3⟩ := row4 R3.out
  go_wp2_with fail
  clear R3c0 R3c1 R3c2 R3c3 R3f0 R3f1 R3f2 R3f3
  refine (HL.out _).mono ?_
  rintro e w1 ⟨p0, d0, p1, d1, rfl, k0, k1, hb⟩
  replace hB := bstep hB hb
  have R2 := Lib.hid (keep hb R2.out)
  have R3 := Lib.hid (keep hb R3.out)
  have K0 := Lib.hid k0
  have K1 := Lib.hid k1
  clear hb k0 k1
  go_upto_region 2 with fail
  generalize hW : (World.alloc _ _).alloc _ = V
  obtain ⟨hb, hsz, R6, R7⟩ := A2 hW
  replace hB := bstep hB hb
  have R2 := Lib.hid (keep hb R2.out)
  have R3 := Lib.hid (keep hb R3.out)
  have K0 := Lib.hid (K0.out.below hb)
  have K1 := Lib.hid (K1.out.below hb)
  clear hb
  have R6 := Lib.hid R6
  have R7 := Lib.hid R7
  clear hW hsz
  obtain ⟨R2c0, R2c1, R2c2, R2c3, R2c4, R2c5, R2c6, R2f0, R2f1, R2f2, R2f3, R2f4, R2f5, R2f6⟩ := row7 R2.out
  obtain ⟨R3c0, R3c1, R3c2, R3c3, R3f0, R3f1, R3f2, R3f3⟩ := row4 R3.out
  go_wp2_with fail
  clear R2c0 R2c1 R2c2 R2c3 R2c4 R2c5 R2c6 R2f0 R2f1 R2f2 R2f3 R2f4 R2f5 R2f6
  clear R3c0 R3c1 R3c2 R3c3 R3f0 R3f1 R3f2 R3f3
  refine (HH.out _).mono ?_
  rintro e w2 ⟨p2, d2, rfl, k2, hb⟩
  replace hB := bstep hB hb
  have R6 := Lib.hid (keep hb R6.out)
  have R7 := Lib.hid (keep hb R7.out)
  have K0 := Lib.hid (K0.out.below hb)
  have K1 := Lib.hid (K1.out.below hb)
  have K2 := Lib.hid k2
  clear k2
  clear hb
  go_upto_region 3 with fail
  generalize hW : World.alloc _ _ = V2
  obtain ⟨hb, hsz, R9⟩ := A1 hW
  replace hB := bstep hB hb
  have R6 := Lib.hid (keep hb R6.out)
  have R7 := Lib.hid (keep hb R7.out)
  have K0 := Lib.hid (K0.out.below hb)
  have K1 := Lib.hid (K1.out.below hb)
  have K2 := Lib.hid (K2.out.below hb)
  clear hb
  have R9 := Lib.hid R9
  clear hW hsz
  go_wp2_with fail
  go_ret2
  exact ⟨rfl, hB⟩


set_option maxRecDepth 100000 in
set_option maxHeartbeats 4000000 in
theorem r31_Wet_ok (oi of ot ok : Int) (r0 r1 r2 : ByteArray) (h t lo hi : ByteArray) (bl bh bq ya yb : Bool) (xl xh x : Rat) (w : World)
    (hl : ∀ W, Calls Tryz.prog 75 #[.agg #[.string lo, .string hi]] W fun e w' => ∃ p d s t : Sl, e = .returned (.tuple #[qW bl p d, qW bh s t, .bool true]) ∧ RQ w' p d xl ∧ RQ w' s t xh ∧ Below W.heap.size W w')
    (hh : ∀ W, Calls Tryz.prog 74 #[.agg #[.int .i64 oi, .int .i64 of, .int .i64 ot, .int .i64 ok, .string r0, .string r1, .string r2], .agg #[.string h, .string t]] W fun e w' => ∃ p d : Sl, e = .returned (.tuple #[qW bq p d, .int .i64 0]) ∧ RQ w' p d x ∧ Below W.heap.size W w')
    (h1 : ∀ W a b c d, RQ W a b xl → RQ W c d x → Calls Tryz.prog 19 #[qW bl a b, qW bq c d] W fun e w' => e = .returned (.bool ya) ∧ Below W.heap.size W w')
    (h2 : ∀ W a b c d, RQ W a b xh → RQ W c d x → Calls Tryz.prog 19 #[qW bh a b, qW bq c d] W fun e w' => e = .returned (.bool yb) ∧ Below W.heap.size W w') :
    Calls Tryz.prog 34 #[.agg #[.int .i64 oi, .int .i64 of, .int .i64 ot, .int .i64 ok, .string r0, .string r1, .string r2], .agg #[.string h, .string t, .string lo, .string hi]] w fun e w' => e = .returned (.tuple #[.int .i64 (if ya = true then (if yb = true then 0 else 1) else 2), .int .i64 0]) ∧ Below w.heap.size w w' := by
  have HL := Lib.hid hl
  have HH := Lib.hid hh
  have H1 := Lib.hid h1
  have H2 := Lib.hid h2
  clear hl hh h1 h2

  cases ya
  · rw [if_neg (by decide)]
    go_enter Tryz.func34, Tryz.ntmps34
    go_upto_region 1 with fail
    generalize hW : (World.alloc w _).alloc _ = W
    obtain ⟨hB, hsz, R2, R3⟩ := A2 hW
    have R2 := Lib.hid R2
    have R3 := Lib.hid R3
    clear hW hsz
    obtain ⟨R3c0, R3c1, R3c2, R3c3, R3f0, R3f1, R3f2, R3f3⟩ := row4 R3.out
    go_wp2_with fail
    clear R3c0 R3c1 R3c2 R3c3 R3f0 R3f1 R3f2 R3f3
    refine (HL.out _).mono ?_
    rintro e w1 ⟨p0, d0, p1, d1, rfl, k0, k1, hb⟩
    replace hB := bstep hB hb
    have R2 := Lib.hid (keep hb R2.out)
    have R3 := Lib.hid (keep hb R3.out)
    have K0 := Lib.hid k0
    have K1 := Lib.hid k1
    clear hb k0 k1
    go_upto_region 2 with fail
    generalize hW : (World.alloc _ _).alloc _ = V
    obtain ⟨hb, hsz, R6, R7⟩ := A2 hW
    replace hB := bstep hB hb
    have R2 := Lib.hid (keep hb R2.out)
    have R3 := Lib.hid (keep hb R3.out)
    have K0 := Lib.hid (K0.out.below hb)
    have K1 := Lib.hid (K1.out.below hb)
    clear hb
    have R6 := Lib.hid R6
    have R7 := Lib.hid R7
    clear hW hsz
    obtain ⟨R2c0, R2c1, R2c2, R2c3, R2c4, R2c5, R2c6, R2f0, R2f1, R2f2, R2f3, R2f4, R2f5, R2f6⟩ := row7 R2.out
    obtain ⟨R3c0, R3c1, R3c2, R3c3, R3f0, R3f1, R3f2, R3f3⟩ := row4 R3.out
    go_wp2_with fail
    clear R2c0 R2c1 R2c2 R2c3 R2c4 R2c5 R2c6 R2f0 R2f1 R2f2 R2f3 R2f4 R2f5 R2f6
    clear R3c0 R3c1 R3c2 R3c3 R3f0 R3f1 R3f2 R3f3
    refine (HH.out _).mono ?_
    rintro e w2 ⟨p2, d2, rfl, k2, hb⟩
    replace hB := bstep hB hb
    have R6 := Lib.hid (keep hb R6.out)
    have R7 := Lib.hid (keep hb R7.out)
    have K0 := Lib.hid (K0.out.below hb)
    have K1 := Lib.hid (K1.out.below hb)
    have K2 := Lib.hid k2
    clear k2
    clear hb
    go_upto_region 3 with fail
    generalize hW : World.alloc _ _ = V2
    obtain ⟨hb, hsz, R9⟩ := A1 hW
    replace hB := bstep hB hb
    have R6 := Lib.hid (keep hb R6.out)
    have R7 := Lib.hid (keep hb R7.out)
    have K0 := Lib.hid (K0.out.below hb)
    have K1 := Lib.hid (K1.out.below hb)
    have K2 := Lib.hid (K2.out.below hb)
    clear hb
    have R9 := Lib.hid R9
    clear hW hsz
    obtain ⟨R6c0, R6c1, R6c2, R6f0, R6f1, R6f2⟩ := row3 R6.out
    obtain ⟨R9c0, R9c1, R9c2, R9f0, R9f1, R9f2⟩ := row3 R9.out
    go_wp2_with fail
    clear R6c0 R6c1 R6c2 R6f0 R6f1 R6f2
    clear R9c0 R9c1 R9c2 R9f0 R9f1 R9f2
    refine (H1.out _ _ _ _ _ K0.out K2.out).mono ?_
    rintro e w3 ⟨rfl, hb⟩
    replace hB := bstep hB hb
    have R6 := Lib.hid (keep hb R6.out)
    have R7 := Lib.hid (keep hb R7.out)
    have R9 := Lib.hid (keep hb R9.out)
    have K0 := Lib.hid (K0.out.below hb)
    have K1 := Lib.hid (K1.out.below hb)
    have K2 := Lib.hid (K2.out.below hb)
    clear hb
    go_wp2_with fail
    go_ret2
    exact ⟨rfl, hB⟩
  · rw [if_pos rfl]
    cases yb
    · rw [if_neg (by decide)]
      go_enter Tryz.func34, Tryz.ntmps34
      go_upto_region 1 with fail
      generalize hW : (World.alloc w _).alloc _ = W
      obtain ⟨hB, hsz, R2, R3⟩ := A2 hW
      have R2 := Lib.hid R2
      have R3 := Lib.hid R3
      clear hW hsz
      obtain ⟨R3c0, R3c1, R3c2, R3c3, R3f0, R3f1, R3f2, R3f3⟩ := row4 R3.out
      go_wp2_with fail
      clear R3c0 R3c1 R3c2 R3c3 R3f0 R3f1 R3f2 R3f3
      refine (HL.out _).mono ?_
      rintro e w1 ⟨p0, d0, p1, d1, rfl, k0, k1, hb⟩
      replace hB := bstep hB hb
      have R2 := Lib.hid (keep hb R2.out)
      have R3 := Lib.hid (keep hb R3.out)
      have K0 := Lib.hid k0
      have K1 := Lib.hid k1
      clear hb k0 k1
      go_upto_region 2 with fail
      generalize hW : (World.alloc _ _).alloc _ = V
      obtain ⟨hb, hsz, R6, R7⟩ := A2 hW
      replace hB := bstep hB hb
      have R2 := Lib.hid (keep hb R2.out)
      have R3 := Lib.hid (keep hb R3.out)
      have K0 := Lib.hid (K0.out.below hb)
      have K1 := Lib.hid (K1.out.below hb)
      clear hb
      have R6 := Lib.hid R6
      have R7 := Lib.hid R7
      clear hW hsz
      obtain ⟨R2c0, R2c1, R2c2, R2c3, R2c4, R2c5, R2c6, R2f0, R2f1, R2f2, R2f3, R2f4, R2f5, R2f6⟩ := row7 R2.out
      obtain ⟨R3c0, R3c1, R3c2, R3c3, R3f0, R3f1, R3f2, R3f3⟩ := row4 R3.out
      go_wp2_with fail
      clear R2c0 R2c1 R2c2 R2c3 R2c4 R2c5 R2c6 R2f0 R2f1 R2f2 R2f3 R2f4 R2f5 R2f6
      clear R3c0 R3c1 R3c2 R3c3 R3f0 R3f1 R3f2 R3f3
      refine (HH.out _).mono ?_
      rintro e w2 ⟨p2, d2, rfl, k2, hb⟩
      replace hB := bstep hB hb
      have R6 := Lib.hid (keep hb R6.out)
      have R7 := Lib.hid (keep hb R7.out)
      have K0 := Lib.hid (K0.out.below hb)
      have K1 := Lib.hid (K1.out.below hb)
      have K2 := Lib.hid k2
      clear k2
      clear hb
      go_upto_region 3 with fail
      generalize hW : World.alloc _ _ = V2
      obtain ⟨hb, hsz, R9⟩ := A1 hW
      replace hB := bstep hB hb
      have R6 := Lib.hid (keep hb R6.out)
      have R7 := Lib.hid (keep hb R7.out)
      have K0 := Lib.hid (K0.out.below hb)
      have K1 := Lib.hid (K1.out.below hb)
      have K2 := Lib.hid (K2.out.below hb)
      clear hb
      have R9 := Lib.hid R9
      clear hW hsz
      obtain ⟨R6c0, R6c1, R6c2, R6f0, R6f1, R6f2⟩ := row3 R6.out
      obtain ⟨R9c0, R9c1, R9c2, R9f0, R9f1, R9f2⟩ := row3 R9.out
      go_wp2_with fail
      clear R6c0 R6c1 R6c2 R6f0 R6f1 R6f2
      clear R9c0 R9c1 R9c2 R9f0 R9f1 R9f2
      refine (H1.out _ _ _ _ _ K0.out K2.out).mono ?_
      rintro e w3 ⟨rfl, hb⟩
      replace hB := bstep hB hb
      have R6 := Lib.hid (keep hb R6.out)
      have R7 := Lib.hid (keep hb R7.out)
      have R9 := Lib.hid (keep hb R9.out)
      have K0 := Lib.hid (K0.out.below hb)
      have K1 := Lib.hid (K1.out.below hb)
      have K2 := Lib.hid (K2.out.below hb)
      clear hb
      obtain ⟨R7c0, R7c1, R7c2, R7f0, R7f1, R7f2⟩ := row3 R7.out
      obtain ⟨R9c0, R9c1, R9c2, R9f0, R9f1, R9f2⟩ := row3 R9.out
      go_wp2_with fail
      clear R7c0 R7c1 R7c2 R7f0 R7f1 R7f2
      clear R9c0 R9c1 R9c2 R9f0 R9f1 R9f2
      refine (H2.out _ _ _ _ _ K1.out K2.out).mono ?_
      rintro e w4 ⟨rfl, hb⟩
      replace hB := bstep hB hb
      have R6 := Lib.hid (keep hb R6.out)
      have R7 := Lib.hid (keep hb R7.out)
      have R9 := Lib.hid (keep hb R9.out)
      have K0 := Lib.hid (K0.out.below hb)
      have K1 := Lib.hid (K1.out.below hb)
      have K2 := Lib.hid (K2.out.below hb)
      clear hb
      go_wp2_with fail
      go_ret2
      exact ⟨rfl, hB⟩
    · rw [if_pos rfl]
      go_enter Tryz.func34, Tryz.ntmps34
      go_upto_region 1 with fail
      generalize hW : (World.alloc w _).alloc _ = W
      obtain ⟨hB, hsz, R2, R3⟩ := A2 hW
      have R2 := Lib.hid R2
      have R3 := Lib.hid R3
      clear hW hsz
      obtain ⟨R3c0, R3c1, R3c2, R3c3, R3f0, R3f1, R3f2, R3f3⟩ := row4 R3.out
      go_wp2_with fail
      clear R3c0 R3c1 R3c2 R3c3 R3f0 R3f1 R3f2 R3f3
      refine (HL.out _).mono ?_
      rintro e w1 ⟨p0, d0, p1, d1, rfl, k0, k1, hb⟩
      replace hB := bstep hB hb
      have R2 := Lib.hid (keep hb R2.out)
      have R3 := Lib.hid (keep hb R3.out)
      have K0 := Lib.hid k0
      have K1 := Lib.hid k1
      clear hb k0 k1
      go_upto_region 2 with fail
      generalize hW : (World.alloc _ _).alloc _ = V
      obtain ⟨hb, hsz, R6, R7⟩ := A2 hW
      replace hB := bstep hB hb
      have R2 := Lib.hid (keep hb R2.out)
      have R3 := Lib.hid (keep hb R3.out)
      have K0 := Lib.hid (K0.out.below hb)
      have K1 := Lib.hid (K1.out.below hb)
      clear hb
      have R6 := Lib.hid R6
      have R7 := Lib.hid R7
      clear hW hsz
      obtain ⟨R2c0, R2c1, R2c2, R2c3, R2c4, R2c5, R2c6, R2f0, R2f1, R2f2, R2f3, R2f4, R2f5, R2f6⟩ := row7 R2.out
      obtain ⟨R3c0, R3c1, R3c2, R3c3, R3f0, R3f1, R3f2, R3f3⟩ := row4 R3.out
      go_wp2_with fail
      clear R2c0 R2c1 R2c2 R2c3 R2c4 R2c5 R2c6 R2f0 R2f1 R2f2 R2f3 R2f4 R2f5 R2f6
      clear R3c0 R3c1 R3c2 R3c3 R3f0 R3f1 R3f2 R3f3
      refine (HH.out _).mono ?_
      rintro e w2 ⟨p2, d2, rfl, k2, hb⟩
      replace hB := bstep hB hb
      have R6 := Lib.hid (keep hb R6.out)
      have R7 := Lib.hid (keep hb R7.out)
      have K0 := Lib.hid (K0.out.below hb)
      have K1 := Lib.hid (K1.out.below hb)
      have K2 := Lib.hid k2
      clear k2
      clear hb
      go_upto_region 3 with fail
      generalize hW : World.alloc _ _ = V2
      obtain ⟨hb, hsz, R9⟩ := A1 hW
      replace hB := bstep hB hb
      have R6 := Lib.hid (keep hb R6.out)
      have R7 := Lib.hid (keep hb R7.out)
      have K0 := Lib.hid (K0.out.below hb)
      have K1 := Lib.hid (K1.out.below hb)
      have K2 := Lib.hid (K2.out.below hb)
      clear hb
      have R9 := Lib.hid R9
      clear hW hsz
      obtain ⟨R6c0, R6c1, R6c2, R6f0, R6f1, R6f2⟩ := row3 R6.out
      obtain ⟨R9c0, R9c1, R9c2, R9f0, R9f1, R9f2⟩ := row3 R9.out
      go_wp2_with fail
      clear R6c0 R6c1 R6c2 R6f0 R6f1 R6f2
      clear R9c0 R9c1 R9c2 R9f0 R9f1 R9f2
      refine (H1.out _ _ _ _ _ K0.out K2.out).mono ?_
      rintro e w3 ⟨rfl, hb⟩
      replace hB := bstep hB hb
      have R6 := Lib.hid (keep hb R6.out)
      have R7 := Lib.hid (keep hb R7.out)
      have R9 := Lib.hid (keep hb R9.out)
      have K0 := Lib.hid (K0.out.below hb)
      have K1 := Lib.hid (K1.out.below hb)
      have K2 := Lib.hid (K2.out.below hb)
      clear hb
      obtain ⟨R7c0, R7c1, R7c2, R7f0, R7f1, R7f2⟩ := row3 R7.out
      obtain ⟨R9c0, R9c1, R9c2, R9f0, R9f1, R9f2⟩ := row3 R9.out
      go_wp2_with fail
      clear R7c0 R7c1 R7c2 R7f0 R7f1 R7f2
      clear R9c0 R9c1 R9c2 R9f0 R9f1 R9f2
      refine (H2.out _ _ _ _ _ K1.out K2.out).mono ?_
      rintro e w4 ⟨rfl, hb⟩
      replace hB := bstep hB hb
      have R6 := Lib.hid (keep hb R6.out)
      have R7 := Lib.hid (keep hb R7.out)
      have R9 := Lib.hid (keep hb R9.out)
      have K0 := Lib.hid (K0.out.below hb)
      have K1 := Lib.hid (K1.out.below hb)
      have K2 := Lib.hid (K2.out.below hb)
      clear hb
      go_wp2_with fail
      go_ret2
      exact ⟨rfl, hB⟩


theorem cmp_swp (x y : Rat) : cmpQ y x = -cmpQ x y := by
  unfold cmpQ cmpI
  split <;> split <;> (try split) <;> omega
/-- Level, at whatever texts. -/
theorem r31_LevelA (lo hi : ByteArray) (w : World) (h1 : lo.size ≤ 40) (h2 : hi.size ≤ 40) :
    Calls Tryz.prog 75 #[.agg #[.string lo, .string hi]] w fun e w' => ∃ p d s t : Sl, e = .returned (.tuple #[qW (sgB (rvX lo).num) p d, qW (sgB (rvX hi).num) s t, .bool (ivOk lo hi)]) ∧ RQ w' p d (rvX lo) ∧ RQ w' s t (rvX hi) ∧ Below w.heap.size w w' := by
  have hB := fun W => r3_Both_aux lo hi (rvX lo) (rvX hi) (rvB lo) (rvB hi) W (fun W => r3_From lo W (Nat.le_trans h1 (by decide))) (fun W => r3_From hi W (Nat.le_trans h2 (by decide)))
  unfold ivOk
  cases hv : (rvB lo && rvB hi) with
  | false =>
    rw [hv] at hB
    rw [Bool.false_and]
    exact r31_Level_bad lo hi _ _ _ _ 1 w rfl hB
  | true =>
    rw [hv] at hB
    rw [Bool.true_and]
    have hl := fun (W : World) (a b c d : Sl) (k1 : RQ W a b (rvX hi)) (k2 : RQ W c d (rvX lo)) => r3_Less (rvX hi) (rvX lo) a b c d W k1 k2 ((sz_rvX h2 (by decide)).mono (by decide)) ((sz_rvX h1 (by decide)).mono (by decide))
    have e : decide (cmpQ (rvX lo) (rvX hi) ≤ 0) = !decide (cmpQ (rvX hi) (rvX lo) < 0) := by
      rw [cmp_swp (rvX lo) (rvX hi), ← decide_not]
      congr 1
      rw [eq_iff_iff]
      omega
    rw [e]
    exact r31_Level_ok lo hi _ _ _ _ _ w hB hl
theorem r31_WetA (oi of ot ok : Int) (s : ByteArray × ByteArray) (r : ByteArray × ByteArray × ByteArray) (lo hi : ByteArray) (w : World) (hs : H40 s r) (h6 : lo.size ≤ 40) (h7 : hi.size ≤ 40) :
    Calls Tryz.prog 34 #[.agg #[.int .i64 oi, .int .i64 of, .int .i64 ot, .int .i64 ok, .string r.1, .string r.2.1, .string r.2.2], .agg #[.string s.1, .string s.2, .string lo, .string hi]] w fun e w' => e = .returned (.tuple #[.int .i64 (wetR s r lo hi), .int .i64 (wetC s r lo hi)]) ∧ Below w.heap.size w w' := by
  have hL := fun W => r31_LevelA lo hi W h6 h7
  unfold wetR wetC
  cases hk : hokB s r with
  | false =>
    rw [Bool.and_false, if_neg (by decide)]
    exact r31_Wet_err oi of ot ok r.1 r.2.1 r.2.2 s.1 s.2 lo hi _ _ _ _ _ _ w (hcode_ne hk) hL (fun W => r31_HeightOf_no oi of ot ok s r W hs hk)
  | true =>
    have hH := fun W => r31_HeightOf_yes oi of ot ok s r W hs hk
    rw [hcode_yes hk, Bool.and_true]
    cases hv : ivOk lo hi with
    | false =>
      rw [hv] at hL
      exact r31_Wet_bad oi of ot ok r.1 r.2.1 r.2.2 s.1 s.2 lo hi _ _ _ _ _ _ w hL hH
    | true =>
      rw [hv] at hL
      rw [if_pos rfl, if_pos rfl]
      unfold wetX
      have e1 : ∀ y : Rat, decide (0 < cmpQ (upX s r) y) = decide (cmpQ y (upX s r) < 0) := fun y => by
        rw [cmp_swp y (upX s r)]
        congr 1
        rw [eq_iff_iff]
        omega
      rw [e1, e1]
      exact r31_Wet_ok oi of ot ok r.1 r.2.1 r.2.2 s.1 s.2 lo hi _ _ _ _ _ _ _ _ w hL hH (fun W a b c d k1 k2 => r3_Less (rvX lo) _ a b c d W k1 k2 ((sz_rvX h6 (by decide)).mono (by decide)) ((zup hs).mono (by decide)))
        (fun W a b c d k1 k2 => r3_Less (rvX hi) _ a b c d W k1 k2 ((sz_rvX h7 (by decide)).mono (by decide)) ((zup hs).mono (by decide)))


/-- Of the first k openings that let water through the lowest: its number (0: none) and its height. -/
noncomputable def lowS (S : Nat → Opn) (s : ByteArray × ByteArray) (m : Bool) : Nat → Int × Rat
  | 0 => (0, 0)
  | k + 1 => if psB (S k).kind m = true ∧ ((lowS S s m k).1 = 0 ∨ upX s (S k).pt < (lowS S s m k).2) then ((S k).id, upX s (S k).pt) else lowS S s m k
/-- Its height's text. -/
noncomputable def lowT (p : Int × Rat) : ByteArray := if p.1 = 0 then ⟨#[]⟩ else rs p.2
theorem lowS_skip {S : Nat → Opn} {s : ByteArray × ByteArray} {m : Bool} {k : Nat} (h : psB (S k).kind m = false) : lowS S s m (k + 1) = lowS S s m k := by
  unfold lowS
  rw [h, if_neg (fun q => by cases q.1)]
  cases k <;> rfl
theorem lowS_take {S : Nat → Opn} {s : ByteArray × ByteArray} {m : Bool} {k : Nat} (h : psB (S k).kind m = true) (h2 : (lowS S s m k).1 = 0 ∨ upX s (S k).pt < (lowS S s m k).2) : lowS S s m (k + 1) = ((S k).id, upX s (S k).pt) := by
  rw [lowS, if_pos ⟨h, h2⟩]
theorem lowS_keep {S : Nat → Opn} {s : ByteArray × ByteArray} {m : Bool} {k : Nat} (h2 : ¬ ((lowS S s m k).1 = 0 ∨ upX s (S k).pt < (lowS S s m k).2)) : lowS S s m (k + 1) = lowS S s m k := by
  rw [lowS, if_neg (fun q => h2 q.2)]
theorem lowS_sz {S : Nat → Opn} {s : ByteArray × ByteArray} {m : Bool} {n : Nat} (h : ∀ i, i < n → H40 s (S i).pt) : ∀ k, k ≤ n → Sz 100000 (lowS S s m k).2
  | 0, _ => (sz_0 1 (by decide)).mono (by decide)
  | k + 1, hk => by
    unfold lowS
    split
    · exact zup (h k (by omega))
    · exact lowS_sz h k (by omega)


set_option maxRecDepth 100000 in
set_option maxHeartbeats 4000000 in
theorem op_Lowest_bad (A : Option Addr) (n c : Nat) (h t : ByteArray) (m : Bool) (ri rc : Int) (w : World) (hc1 : (rc != 0) = true)
    (hc : ∀ W, Below w.heap.size w W → Calls Tryz.prog 29 #[.slice A n c] W fun e w' => e = .returned (.tuple #[.int .i64 ri, .int .i64 rc]) ∧ Below W.heap.size W w') :
    Calls Tryz.prog 35 #[.slice A n c, .agg #[.string h, .string t], .bool m] w fun e w' => e = .returned (.tuple #[.int .i64 0, .string ⟨#[]⟩, .int .i64 1]) ∧ Below w.heap.size w w' := by
  have HC := Lib.hid hc
  clear hc

  go_enter Tryz.func35, Tryz.ntmps35
  go_wp2_with fail
  generalize hW : World.alloc w _ = W
  obtain ⟨hB, hsz, R4⟩ := A1 hW
  have R4 := Lib.hid R4
  clear hW hsz
  refine (HC.out _ hB).mono ?_
  rintro e w1 ⟨rfl, hb⟩
  replace hB := bstep hB hb
  clear hb
  go_wp2_with fail
  go_ret3
  exact ⟨rfl, hB⟩


set_option maxRecDepth 100000 in
set_option maxHeartbeats 4000000 in
theorem op_Lowest_err (A : Option Addr) (n c : Nat) (h t : ByteArray) (m : Bool) (ri cc : Int) (w : World) (hE : Env w) (hc1 : (cc != 0) = true)
    (hc : ∀ W, Below w.heap.size w W → Calls Tryz.prog 29 #[.slice A n c] W fun e w' => e = .returned (.tuple #[.int .i64 ri, .int .i64 0]) ∧ Below W.heap.size W w')
    (ha : ∀ W, Env W → Calls Tryz.prog 76 #[.agg #[.string h, .string t]] W fun e w' => e = .returned (.int .i64 cc) ∧ Below W.heap.size W w') :
    Calls Tryz.prog 35 #[.slice A n c, .agg #[.string h, .string t], .bool m] w fun e w' => e = .returned (.tuple #[.int .i64 0, .string ⟨#[]⟩, .int .i64 cc]) ∧ Below w.heap.size w w' := by
  have HC := Lib.hid hc
  have HA := Lib.hid ha
  clear hc ha
  have HE := Lib.hid hE
  clear hE
  go_enter Tryz.func35, Tryz.ntmps35
  go_wp2_with fail
  generalize hW : World.alloc w _ = W
  obtain ⟨hB, hsz, R4⟩ := A1 hW
  have R4 := Lib.hid R4
  clear hW hsz
  refine (HC.out _ hB).mono ?_
  rintro e w1 ⟨rfl, hb⟩
  replace hB := bstep hB hb
  have R4 := Lib.hid (keep hb R4.out)
  clear hb
  obtain ⟨c0, c1, f0, f1⟩ := row2 R4.out
  go_wp2_with fail
  clear c0 c1 f0 f1
  refine (HA.out _ (HE.out.below hB)).mono ?_
  rintro e w2 ⟨rfl, hb⟩
  replace hB := bstep hB hb
  clear hb
  go_wp2_with fail
  go_ret3
  exact ⟨rfl, hB⟩


set_option maxRecDepth 100000 in
set_option maxHeartbeats 8000000 in
theorem op_Lowest_go (A : Option Addr) (b off n c : Nat) (S : Nat → Opn) (s : ByteArray × ByteArray) (m : Bool) (ri : Int) (w : World) (hE : Env w) (hn : n ≤ 64) (hA : 0 < n → A = some ⟨b, off, none⟩) (hS : OpsAt w b off n S) (h40 : ∀ i, i < n → H40 s (S i).pt) (hok : ∀ i, i < n → hokB s (S i).pt = true) (hid : ∀ i, i < n → (S i).id ≠ 0)
    (hc : ∀ W, Below w.heap.size w W → Calls Tryz.prog 29 #[.slice A n c] W fun e w' => e = .returned (.tuple #[.int .i64 ri, .int .i64 0]) ∧ Below W.heap.size W w')
    (ha : ∀ W, Env W → Calls Tryz.prog 76 #[.agg #[.string s.1, .string s.2]] W fun e w' => e = .returned (.int .i64 0) ∧ Below W.heap.size W w') :
    Calls Tryz.prog 35 #[.slice A n c, .agg #[.string s.1, .string s.2], .bool m] w fun e w' => e = .returned (if (lowS S s m n).1 = 0 then Value.tuple #[.int .i64 0, .string ⟨#[]⟩, .int .i64 7] else .tuple #[.int .i64 (lowS S s m n).1, .string (rs (lowS S s m n).2), .int .i64 0]) ∧ Below w.heap.size w w' := by
  obtain ⟨h, t⟩ := s
  have HC := Lib.hid hc
  have HA2 := Lib.hid ha
  have HE := Lib.hid hE
  have HS := Lib.hid hS
  have HA := Lib.hid hA
  have HH := Lib.hid (fun i (hi : i < n) W hE => op_HeightA (S i).id (S i).frm (S i).dst (S i).kind (h, t) (S i).pt W hE (h40 i hi).shH)
  have HZ := Lib.hid (lowS_sz (m := m) h40)
  have HU := Lib.hid (fun i (hi : i < n) => zup (h40 i hi))
  have HK := Lib.hid hok
  have HI := Lib.hid hid
  generalize hRES : (if (lowS S (h, t) m n).1 = 0 then Value.tuple #[.int .i64 0, .string ⟨#[]⟩, .int .i64 7] else .tuple #[.int .i64 (lowS S (h, t) m n).1, .string (rs (lowS S (h, t) m n).2), .int .i64 0]) = RES
  have HRES := Lib.hid hRES
  clear hRES hc ha hE hS hA hok hid h40
  go_enter Tryz.func35, Tryz.ntmps35
  go_wp2_with fail
  generalize hW : World.alloc w _ = W
  obtain ⟨hB, hsz, R4⟩ := A1 hW
  have R4 := Lib.hid R4
  clear hW hsz
  refine (HC.out _ hB).mono ?_
  rintro e w1 ⟨rfl, hb⟩
  replace hB := bstep hB hb
  have R4 := Lib.hid (keep hb R4.out)
  clear hb
  obtain ⟨c0, c1, f0, f1⟩ := row2 R4.out
  go_wp2_with fail
  clear c0 c1 f0 f1
  refine (HA2.out _ (HE.out.below hB)).mono ?_
  rintro e w2 ⟨rfl, hb⟩
  replace hB := bstep hB hb
  have R4 := Lib.hid (keep hb R4.out)
  clear hb
  go_wp2_with fail
  go_loopw [12, 13, 32] (fun x y z wr => ∃ k : Nat, k ≤ n ∧ x = .int .i64 (lowS S (h, t) m k).1 ∧ y = .string (lowT (lowS S (h, t) m k)) ∧ z = .int .i64 k ∧ Below w.heap.size w wr ∧ Hid (wr.heap[w.heap.size]? = some (.cells #[.string h, .string t] 28 (0, 0)))) (fun _ _ z _ => n - (intOf z).toNat)
  case atStart => exact ⟨0, Nat.zero_le _, rfl, rfl, rfl, hB, R4⟩
  case round =>
    clear hB R4
    obtain ⟨k, hk, rfl, rfl, rfl, hB, R4⟩ := hrel
    by_cases hlt : k < n
    · have hAe := HA.out (by omega)
      subst hAe
      obtain ⟨c0, c1, c2, c3, c4, c5, c6⟩ := (HS.out.below hB) k hlt
      have P1 := Lib.hid (fun W => op_Passes (S k).id (S k).frm (S k).dst (S k).kind (S k).pt.1 (S k).pt.2.1 (S k).pt.2.2 m W)
      have hH := HH.out k hlt
      rw [HK.out k hlt, hcode_yes (HK.out k hlt)] at hH
      unfold hgtR at hH
      rw [if_pos rfl] at hH
      have P2 := Lib.hid hH
      clear hH
      have zk := HZ.out k hk
      have zu := HU.out k hlt
      have P3 := Lib.hid (fun W hE => op_above (lowS S (h, t) m k).2 (upX (h, t) (S k).pt) W hE (zk.mono (by decide)) (zu.mono (by decide)))
      have J0 : Hid (psB (S k).kind m = false → Value.int .i64 (lowS S (h, t) m k).1 = .int .i64 (lowS S (h, t) m (k + 1)).1 ∧ Value.string (lowT (lowS S (h, t) m k)) = .string (lowT (lowS S (h, t) m (k + 1)))) := Lib.hid (fun q => by rw [lowS_skip q]; exact ⟨rfl, rfl⟩)
      have J2 : Hid (¬ ((lowS S (h, t) m k).1 = 0 ∨ 0 < cmpQ (lowS S (h, t) m k).2 (upX (h, t) (S k).pt)) → Value.int .i64 (lowS S (h, t) m k).1 = .int .i64 (lowS S (h, t) m (k + 1)).1 ∧ Value.string (lowT (lowS S (h, t) m k)) = .string (lowT (lowS S (h, t) m (k + 1)))) := Lib.hid (fun q => by
        rw [cmp_swp (upX (h, t) (S k).pt), Int.neg_pos, cmpQ_neg] at q
        rw [lowS_keep q]; exact ⟨rfl, rfl⟩)
      have J1 : Hid (psB (S k).kind m = true → ((lowS S (h, t) m k).1 = 0 ∨ 0 < cmpQ (lowS S (h, t) m k).2 (upX (h, t) (S k).pt)) → Value.int .i64 (S k).id = .int .i64 (lowS S (h, t) m (k + 1)).1 ∧ Value.string (rs (upX (h, t) (S k).pt)) = .string (lowT (lowS S (h, t) m (k + 1)))) := Lib.hid (fun q1 q => by
        rw [cmp_swp (upX (h, t) (S k).pt), Int.neg_pos, cmpQ_neg] at q
        rw [lowS_take q1 q]
        exact ⟨rfl, by unfold lowT; rw [if_neg (HI.out k hlt)]⟩)
      have HT : Hid ((lowS S (h, t) m k).1 ≠ 0 → lowT (lowS S (h, t) m k) = rs (lowS S (h, t) m k).2) := Lib.hid (fun q => by unfold lowT; rw [if_neg q])
      clear zk zu
      generalize lowT (lowS S (h, t) m k) = T at *
      generalize lowS S (h, t) m k = lo at *
      obtain ⟨li, lx⟩ := lo
      simp only at P3 J0 J1 J2 HT
      generalize rs (upX (h, t) (S k).pt) = U at *
      generalize cmpQ lx (upX (h, t) (S k).pt) = z at *
      generalize psB (S k).kind m = q at *
      generalize (S k).id = a1 at *
      generalize (S k).frm = a2 at *
      generalize (S k).dst = a3 at *
      generalize (S k).kind = a4 at *
      generalize (S k).pt.1 = s1 at *
      generalize (S k).pt.2.1 = s2 at *
      generalize (S k).pt.2.2 = s3 at *
      go_upto_region 11 with fail
      generalize hW : World.alloc _ _ = V
      obtain ⟨hb, hsz, R15⟩ := A1 hW
      replace hB := bstep hB hb
      have R4 := Lib.hid (keep hb R4.out)
      clear hb
      have R15 := Lib.hid R15
      clear hW hsz
      clear c0 c1 c2 c3 c4 c5 c6
      obtain ⟨R15c0, R15c1, R15c2, R15c3, R15c4, R15c5, R15c6, R15f0, R15f1, R15f2, R15f3, R15f4, R15f5, R15f6⟩ := row7 R15.out
      go_wp2_with fail
      clear R15c0 R15c1 R15c2 R15c3 R15c4 R15c5 R15c6 R15f0 R15f1 R15f2 R15f3 R15f4 R15f5 R15f6
      refine (P1.out _).mono ?_
      rintro e w3 ⟨rfl, hb⟩
      replace hB := bstep hB hb
      have R4 := Lib.hid (keep hb R4.out)
      have R15 := Lib.hid (keep hb R15.out)
      clear hb
      cases q
      · have HN := Lib.hid (J0.out rfl)
        clear J0 J1 J2
        go_wp2_with fail
        go_roundw
        case rel => exact ⟨k + 1, by omega, HN.out.1, HN.out.2, by go_num, hB, R4⟩
        case measure => simp [intOf]; omega
      · have K1 := Lib.hid (J1.out rfl)
        clear J0 J1
        obtain ⟨d0, d1, e0, e1⟩ := row2 R4.out
        obtain ⟨R15c0, R15c1, R15c2, R15c3, R15c4, R15c5, R15c6, R15f0, R15f1, R15f2, R15f3, R15f4, R15f5, R15f6⟩ := row7 R15.out
        go_wp2_with fail
        clear R15c0 R15c1 R15c2 R15c3 R15c4 R15c5 R15c6 R15f0 R15f1 R15f2 R15f3 R15f4 R15f5 R15f6
        clear d0 d1 e0 e1
        refine (P2.out _ (HE.out.below hB)).mono ?_
        rintro e w4 ⟨rfl, hb⟩
        replace hB := bstep hB hb
        have R4 := Lib.hid (keep hb R4.out)
        have R15 := Lib.hid (keep hb R15.out)
        clear hb
        by_cases hi0 : li = 0
        · have HN := Lib.hid (K1.out (.inl hi0))
          clear K1 J2 HT
          subst hi0
          obtain ⟨R15c0, R15c1, R15c2, R15c3, R15c4, R15c5, R15c6, R15f0, R15f1, R15f2, R15f3, R15f4, R15f5, R15f6⟩ := row7 R15.out
          go_wp2_with fail
          clear R15c0 R15c1 R15c2 R15c3 R15c4 R15c5 R15c6 R15f0 R15f1 R15f2 R15f3 R15f4 R15f5 R15f6
          go_roundw
          case rel => exact ⟨k + 1, by omega, HN.out.1, HN.out.2, by go_num, hB, R4⟩
          case measure => simp [intOf]; omega
        · have hTe := HT.out hi0
          have hi1 : (li == 0) = false := by rw [beq_eq_false_iff_ne]; exact hi0
          rw [← hTe] at P3
          clear HT hTe
          by_cases hz : 0 < z
          · have HN := Lib.hid (K1.out (.inr hz))
            rw [decide_eq_true hz] at P3
            clear K1 J2 hz
            go_wp2_with fail
            refine (P3.out _ (HE.out.below hB)).mono ?_
            rintro e w5 ⟨rfl, hb⟩
            replace hB := bstep hB hb
            have R4 := Lib.hid (keep hb R4.out)
            have R15 := Lib.hid (keep hb R15.out)
            clear hb
            obtain ⟨R15c0, R15c1, R15c2, R15c3, R15c4, R15c5, R15c6, R15f0, R15f1, R15f2, R15f3, R15f4, R15f5, R15f6⟩ := row7 R15.out
            go_wp2_with fail
            clear R15c0 R15c1 R15c2 R15c3 R15c4 R15c5 R15c6 R15f0 R15f1 R15f2 R15f3 R15f4 R15f5 R15f6
            go_roundw
            case rel => exact ⟨k + 1, by omega, HN.out.1, HN.out.2, by go_num, hB, R4⟩
            case measure => simp [intOf]; omega
          · have HN := Lib.hid (J2.out (fun g => g.elim hi0 hz))
            rw [decide_eq_false hz] at P3
            clear K1 J2 hz
            go_wp2_with fail
            refine (P3.out _ (HE.out.below hB)).mono ?_
            rintro e w5 ⟨rfl, hb⟩
            replace hB := bstep hB hb
            have R4 := Lib.hid (keep hb R4.out)
            clear hb
            go_wp2_with fail
            go_roundw
            case rel => exact ⟨k + 1, by omega, HN.out.1, HN.out.2, by go_num, hB, R4⟩
            case measure => simp [intOf]; omega
    · have hkn : k = n := by omega
      subst hkn
      have HT : Hid ((lowS S (h, t) m k).1 ≠ 0 → lowT (lowS S (h, t) m k) = rs (lowS S (h, t) m k).2) := Lib.hid (fun q => by unfold lowT; rw [if_neg q])
      generalize lowT (lowS S (h, t) m k) = T at *
      generalize lowS S (h, t) m k = lo at *
      obtain ⟨li, lx⟩ := lo
      simp only at HT HRES
      by_cases hi0 : li = 0
      · have HR := HRES.out
        rw [if_pos hi0] at HR
        have HR := Lib.hid HR
        subst hi0
        go_wp2_with fail
        go_ret3
        exact ⟨congrArg _ HR.out, hB⟩
      · have HR := HRES.out
        rw [if_neg hi0, ← HT.out hi0] at HR
        have HR := Lib.hid HR
        have hi1 : (li == 0) = false := by rw [beq_eq_false_iff_ne]; exact hi0
        clear HT
        go_wp2_with fail
        go_ret3
        exact ⟨congrArg _ HR.out, hB⟩

end Go.Proofs.YthkkdepppjiaeaaGreatDoor

/- The reference of layer 31: Lowest. -/
namespace Go.Proofs.YthkkdepppjiaeaaGreatDoor
open Go.RowKit Go.Shelf Go.Sort

attribute [local go_sem] Oper.semAt_some
attribute [local go_sem ↓ high] storeAt_fr loadAt_fr
attribute [local go_sem high] run_storeAt_fr run_storeAt_frN

theorem drew_row3 {W : World} {g : Nat} {o : Obj} (h : W.heap[g]? = some o) : W.drew.heap[g]? = some o := h
theorem Ap.cellV {V w : World} {b i : Nat} {v : Value} (ha : Ap V.heap.size V.heap.size V w) (h : V.cell? ⟨b, i, none⟩ = some v) : w.cell? ⟨b, i, none⟩ = some v := by
  have hl : b < V.heap.size := World.block_lt_of_cell? V _ h
  exact (World.cell?_of_block (w := V) (ha.block b hl (by omega) (by omega))).trans h


set_option maxRecDepth 100000 in
set_option maxHeartbeats 4000000 in
theorem r31_Lowest_err (A : Option Addr) (n c : Nat) (h t : ByteArray) (m g : Bool) (cc : Int) (w : World) (hc1 : (cc != 0) = true)
    (hf : ∀ w, Calls Tryz.prog 77 #[.agg #[.string h, .string t]] w fun e w' => e = .returned (.tuple #[.agg #[.bool false, .slice none 0 0, .slice none 0 0, .bool false, .slice none 0 0, .slice none 0 0, .bool false, .slice none 0 0, .slice none 0 0, .bool false, .slice none 0 0, .slice none 0 0, .bool false, .slice none 0 0, .slice none 0 0, .bool false, .slice none 0 0, .slice none 0 0, .bool false, .slice none 0 0, .slice none 0 0, .bool false, .slice none 0 0, .slice none 0 0, .bool false, .slice none 0 0, .slice none 0 0], .int .i64 cc]) ∧ Below w.heap.size w w')
    (hg : ∀ W, Below w.heap.size w W → Calls Tryz.prog 78 #[.slice A n c] W fun e w' => e = .returned (.bool g) ∧ Below W.heap.size W w') :
    Calls Tryz.prog 36 #[.slice A n c, .agg #[.string h, .string t], .bool m] w fun e w' => e = .returned (.tuple #[.int .i64 0, .string ⟨#[]⟩, .int .i64 (if g = true then cc else 1)]) ∧ Below w.heap.size w w' := by
  have HF := Lib.hid hf
  have HG := Lib.hid hg
  clear hf hg

  cases g
  · rw [if_neg (by decide)]
    go_enter Tryz.func36, Tryz.ntmps36
    go_wp2_with fail
    generalize hW : World.alloc w _ = W
    obtain ⟨hB, hsz, R4⟩ := A1 hW
    have R4 := Lib.hid R4
    clear hW hsz
    obtain ⟨c0, c1, f0, f1⟩ := row2 R4.out
    go_wp2_with fail
    clear c0 c1 f0 f1
    refine (HF.out _).mono ?_
    rintro e w2 ⟨rfl, hb⟩
    replace hB := bstep hB hb
    have R4 := Lib.hid (keep hb R4.out)
    clear hb
    go_upto_region 2 with fail
    generalize hW : World.alloc _ _ = V
    obtain ⟨hb, hsz, R9⟩ := A1 hW
    replace hB := bstep hB hb
    have R4 := Lib.hid (keep hb R4.out)
    clear hb
    have R9 := Lib.hid R9
    clear hW hsz
    clear R9
    go_wp2_with fail
    refine (HG.out _ hB).mono ?_
    rintro e w3 ⟨rfl, hb⟩
    replace hB := bstep hB hb
    have R4 := Lib.hid (keep hb R4.out)
    clear hb
    go_wp2_with fail
    go_ret3
    exact ⟨rfl, hB⟩
  · rw [if_pos rfl]
    cases hc2 : (cc == 1)
    · skip
      go_enter Tryz.func36, Tryz.ntmps36
      go_wp2_with fail
      generalize hW : World.alloc w _ = W
      obtain ⟨hB, hsz, R4⟩ := A1 hW
      have R4 := Lib.hid R4
      clear hW hsz
      obtain ⟨c0, c1, f0, f1⟩ := row2 R4.out
      go_wp2_with fail
      clear c0 c1 f0 f1
      refine (HF.out _).mono ?_
      rintro e w2 ⟨rfl, hb⟩
      replace hB := bstep hB hb
      have R4 := Lib.hid (keep hb R4.out)
      clear hb
      go_upto_region 2 with fail
      generalize hW : World.alloc _ _ = V
      obtain ⟨hb, hsz, R9⟩ := A1 hW
      replace hB := bstep hB hb
      have R4 := Lib.hid (keep hb R4.out)
      clear hb
      have R9 := Lib.hid R9
      clear hW hsz
      clear R9
      go_wp2_with fail
      refine (HG.out _ hB).mono ?_
      rintro e w3 ⟨rfl, hb⟩
      replace hB := bstep hB hb
      have R4 := Lib.hid (keep hb R4.out)
      clear hb
      go_wp2_with fail
      go_ret3
      exact ⟨rfl, hB⟩
    · obtain rfl : cc = 1 := by simpa using hc2
      go_enter Tryz.func36, Tryz.ntmps36
      go_wp2_with fail
      generalize hW : World.alloc w _ = W
      obtain ⟨hB, hsz, R4⟩ := A1 hW
      have R4 := Lib.hid R4
      clear hW hsz
      obtain ⟨c0, c1, f0, f1⟩ := row2 R4.out
      go_wp2_with fail
      clear c0 c1 f0 f1
      refine (HF.out _).mono ?_
      rintro e w2 ⟨rfl, hb⟩
      replace hB := bstep hB hb
      have R4 := Lib.hid (keep hb R4.out)
      clear hb
      go_upto_region 2 with fail
      generalize hW : World.alloc _ _ = V
      obtain ⟨hb, hsz, R9⟩ := A1 hW
      replace hB := bstep hB hb
      have R4 := Lib.hid (keep hb R4.out)
      clear hb
      have R9 := Lib.hid R9
      clear hW hsz
      clear R9
      go_wp2_with fail
      refine (HG.out _ hB).mono ?_
      rintro e w3 ⟨rfl, hb⟩
      replace hB := bstep hB hb
      have R4 := Lib.hid (keep hb R4.out)
      clear hb
      go_wp2_with fail
      go_ret3
      exact ⟨rfl, hB⟩


set_option maxRecDepth 100000 in
set_option maxHeartbeats 4000000 in
theorem r31_Lowest_bad (A : Option Addr) (n c : Nat) (h t : ByteArray) (m : Bool) (b0 b1 b2 b3 b4 b5 b6 b7 b8 : Bool) (w : World)
    (hf : ∀ w, Calls Tryz.prog 77 #[.agg #[.string h, .string t]] w fun e w' => ∃ fA fS fU : VS, e = .returned (.tuple #[.agg #[.bool b0, .slice fA.x.p.A fA.x.p.n fA.x.p.c, .slice fA.x.d.A fA.x.d.n fA.x.d.c, .bool b1, .slice fA.y.p.A fA.y.p.n fA.y.p.c, .slice fA.y.d.A fA.y.d.n fA.y.d.c, .bool b2, .slice fA.z.p.A fA.z.p.n fA.z.p.c, .slice fA.z.d.A fA.z.d.n fA.z.d.c, .bool b3, .slice fS.x.p.A fS.x.p.n fS.x.p.c, .slice fS.x.d.A fS.x.d.n fS.x.d.c, .bool b4, .slice fS.y.p.A fS.y.p.n fS.y.p.c, .slice fS.y.d.A fS.y.d.n fS.y.d.c, .bool b5, .slice fS.z.p.A fS.z.p.n fS.z.p.c, .slice fS.z.d.A fS.z.d.n fS.z.d.c, .bool b6, .slice fU.x.p.A fU.x.p.n fU.x.p.c, .slice fU.x.d.A fU.x.d.n fU.x.d.c, .bool b7, .slice fU.y.p.A fU.y.p.n fU.y.p.c, .slice fU.y.d.A fU.y.d.n fU.y.d.c, .bool b8, .slice fU.z.p.A fU.z.p.n fU.z.p.c, .slice fU.z.d.A fU.z.d.n fU.z.d.c], .int .i64 0]) ∧ Below w.heap.size w w')
    (hg : ∀ W, Below w.heap.size w W → Calls Tryz.prog 78 #[.slice A n c] W fun e w' => e = .returned (.bool false) ∧ Below W.heap.size W w') :
    Calls Tryz.prog 36 #[.slice A n c, .agg #[.string h, .string t], .bool m] w fun e w' => e = .returned (.tuple #[.int .i64 0, .string ⟨#[]⟩, .int .i64 1]) ∧ Below w.heap.size w w' := by
  have HF := Lib.hid hf
  have HG := Lib.hid hg
  clear hf hg
  go_enter Tryz.func36, Tryz.ntmps36
  go_wp2_with fail
  generalize hW : World.alloc w _ = W
  obtain ⟨hB, hsz, R4⟩ := A1 hW
  have R4 := Lib.hid R4
  clear hW hsz
  obtain ⟨c0, c1, f0, f1⟩ := row2 R4.out
  go_wp2_with fail
  clear c0 c1 f0 f1
  refine (HF.out _).mono ?_
  rintro e w2 ⟨fA, fS, fU, rfl, hb⟩
  replace hB := bstep hB hb
  have R4 := Lib.hid (keep hb R4.out)
  clear hb
  go_upto_region 2 with fail
  generalize hW : World.alloc _ _ = V
  obtain ⟨hb, hsz, R9⟩ := A1 hW
  replace hB := bstep hB hb
  have R4 := Lib.hid (keep hb R4.out)
  clear hb
  have R9 := Lib.hid R9
  clear hW hsz
  clear R9
  go_wp2_with fail
  refine (HG.out _ hB).mono ?_
  rintro e w3 ⟨rfl, hb⟩
  replace hB := bstep hB hb
  have R4 := Lib.hid (keep hb R4.out)
  clear hb
  go_wp2_with fail
  go_ret3
  exact ⟨rfl, hB⟩



set_option maxRecDepth 100000 in
set_option maxHeartbeats 8000000 in
theorem r31_Lowest_go (A : Option Addr) (b off n c : Nat) (S : Nat → Opn) (s : ByteArray × ByteArray) (m : Bool) (b0 b1 b2 b3 b4 b5 b6 b7 b8 : Bool) (w : World) (hn : n ≤ 64) (hA : 0 < n → A = some ⟨b, off, none⟩) (hS : OpsAt w b off n S) (h40 : ∀ i, i < n → H40 s (S i).pt) (hok : ∀ i, i < n → hokB s (S i).pt = true)
    (hf : ∀ w, Calls Tryz.prog 77 #[.agg #[.string s.1, .string s.2]] w fun e w' => ∃ fA fS fU : VS, e = .returned (.tuple #[.agg #[.bool b0, .slice fA.x.p.A fA.x.p.n fA.x.p.c, .slice fA.x.d.A fA.x.d.n fA.x.d.c, .bool b1, .slice fA.y.p.A fA.y.p.n fA.y.p.c, .slice fA.y.d.A fA.y.d.n fA.y.d.c, .bool b2, .slice fA.z.p.A fA.z.p.n fA.z.p.c, .slice fA.z.d.A fA.z.d.n fA.z.d.c, .bool b3, .slice fS.x.p.A fS.x.p.n fS.x.p.c, .slice fS.x.d.A fS.x.d.n fS.x.d.c, .bool b4, .slice fS.y.p.A fS.y.p.n fS.y.p.c, .slice fS.y.d.A fS.y.d.n fS.y.d.c, .bool b5, .slice fS.z.p.A fS.z.p.n fS.z.p.c, .slice fS.z.d.A fS.z.d.n fS.z.d.c, .bool b6, .slice fU.x.p.A fU.x.p.n fU.x.p.c, .slice fU.x.d.A fU.x.d.n fU.x.d.c, .bool b7, .slice fU.y.p.A fU.y.p.n fU.y.p.c, .slice fU.y.d.A fU.y.d.n fU.y.d.c, .bool b8, .slice fU.z.p.A fU.z.p.n fU.z.p.c, .slice fU.z.d.A fU.z.d.n fU.z.d.c], .int .i64 0]) ∧ Below w.heap.size w w')
    (hg : ∀ W, Below w.heap.size w W → Calls Tryz.prog 78 #[.slice A n c] W fun e w' => e = .returned (.bool true) ∧ Below W.heap.size W w') :
    Calls Tryz.prog 36 #[.slice A n c, .agg #[.string s.1, .string s.2], .bool m] w fun e w' => e = .returned (if (lowS S s m n).1 = 0 then Value.tuple #[.int .i64 0, .string ⟨#[]⟩, .int .i64 7] else .tuple #[.int .i64 (lowS S s m n).1, .string (rs (lowS S s m n).2), .int .i64 0]) ∧ Below w.heap.size w w' := by
  obtain ⟨h, t⟩ := s
  have HF := Lib.hid hf
  have HG := Lib.hid hg
  have HS := Lib.hid hS
  have HA := Lib.hid hA
  have HI0 := Lib.hid (fun W => show Calls Tryz.prog 54 #[.int .i64 0] W fun e w' => ∃ p d : Sl, e = .returned (qW (sgB (0 : Rat).num) p d) ∧ RQ w' p d 0 ∧ Below W.heap.size W w' from r3_Int0 W)
  have HH := Lib.hid (fun i (hi : i < n) W => r31_HeightOf_yes (S i).id (S i).frm (S i).dst (S i).kind (h, t) (S i).pt W (h40 i hi) (hok i hi))
  have HZ := Lib.hid (lowS_sz (m := m) h40)
  have HU := Lib.hid (fun i (hi : i < n) => zup (h40 i hi))
  generalize hRES : (if (lowS S (h, t) m n).1 = 0 then Value.tuple #[.int .i64 0, .string ⟨#[]⟩, .int .i64 7] else .tuple #[.int .i64 (lowS S (h, t) m n).1, .string (rs (lowS S (h, t) m n).2), .int .i64 0]) = RES
  have HRES := Lib.hid hRES
  clear hRES hf hg hS hA hok h40
  go_enter Tryz.func36, Tryz.ntmps36
  go_wp2_with fail
  generalize hW : World.alloc w _ = W
  obtain ⟨hB, hsz, R4⟩ := A1 hW
  have R4 := Lib.hid R4
  clear hW hsz
  obtain ⟨c0, c1, f0, f1⟩ := row2 R4.out
  go_wp2_with fail
  clear c0 c1 f0 f1
  refine (HF.out _).mono ?_
  rintro e w2 ⟨fA, fS, fU, rfl, hb⟩
  replace hB := bstep hB hb
  have R4 := Lib.hid (keep hb R4.out)
  clear hb
  go_upto_region 2 with fail
  generalize hW : World.alloc _ _ = V
  obtain ⟨hb, hsz, R9⟩ := A1 hW
  replace hB := bstep hB hb
  have R4 := Lib.hid (keep hb R4.out)
  clear hb
  have R9 := Lib.hid R9
  clear hW hsz
  clear R9
  go_wp2_with fail
  refine (HG.out _ hB).mono ?_
  rintro e w3 ⟨rfl, hb⟩
  replace hB := bstep hB hb
  have R4 := Lib.hid (keep hb R4.out)
  clear hb
  go_wp2_with fail
  refine (HI0.out _).mono ?_
  rintro e w4 ⟨p0, d0, rfl, h0, hb⟩
  replace hB := bstep hB hb
  have R4 := Lib.hid (keep hb R4.out)
  have K12 := Lib.hid h0
  clear h0
  clear hb
  go_upto_region 7 with fail
  have L4 := lt_of_row R4.out
  generalize hW : World.alloc _ _ = V4
  obtain ⟨hb, hsz, R12⟩ := A1 hW
  replace hB := bstep hB hb
  have R4 := Lib.hid (keep hb R4.out)
  have K12 := Lib.hid (K12.out.below hb)
  clear hb
  have R12 := Lib.hid R12
  clear hW hsz
  have N4 := Lib.hid (show w.heap.size ≠ w4.heap.size by omega)
  have LE12 := Lib.hid (show w.heap.size ≤ w4.heap.size by omega)
  clear L4
  generalize w4.heap.size = b12 at *
  go_wp2_with fail
  go_loopw [11, 13] (fun x z wr => ∃ (k : Nat) (p d : Sl), k ≤ n ∧ x = .int .i64 (lowS S (h, t) m k).1 ∧ z = .int .i64 k ∧ Below w.heap.size w wr ∧ Hid (wr.heap[w.heap.size]? = some (.cells #[.string h, .string t] 28 (0, 0))) ∧
      Hid (wr.heap[b12]? = some (.cells #[.bool (sgB (lowS S (h, t) m k).2.num), .slice p.A p.n p.c, .slice d.A d.n d.c] 45 (0, 0))) ∧ Hid (RQ wr p d (lowS S (h, t) m k).2)) (fun _ z _ => n - (intOf z).toNat)
  case atStart => exact ⟨0, p0, d0, Nat.zero_le _, rfl, rfl, hB, R4, R12, K12⟩
  case round =>
    clear hB R4 R12 K12
    obtain ⟨k, p, d, hk, rfl, rfl, hB, R4, R12, K12⟩ := hrel
    by_cases hlt : k < n
    · have hAe := HA.out (by omega)
      subst hAe
      obtain ⟨c0, c1, c2, c3, c4, c5, c6⟩ := (HS.out.below hB) k hlt
      have P1 := Lib.hid (fun W => r31_Passes (S k).id (S k).frm (S k).dst (S k).kind (S k).pt.1 (S k).pt.2.1 (S k).pt.2.2 m W)
      have Q0 := Lib.hid (HH.out k hlt)
      have HC0 := Lib.hid (fun W (hb : Below w.heap.size w W) => (HS.out.below hb) k hlt)
      have zk := HZ.out k hk
      have zu := HU.out k hlt
      have P3 := Lib.hid (fun W a b c d (k1 : RQ W a b (upX (h, t) (S k).pt)) (k2 : RQ W c d (lowS S (h, t) m k).2) => r3_Less _ _ a b c d W k1 k2 (zu.mono (by decide)) (zk.mono (by decide)))
      have J0 : Hid (psB (S k).kind m = false → lowS S (h, t) m (k + 1) = lowS S (h, t) m k) := Lib.hid (fun q => lowS_skip q)
      have J2 : Hid (¬ ((lowS S (h, t) m k).1 = 0 ∨ cmpQ (upX (h, t) (S k).pt) (lowS S (h, t) m k).2 < 0) → lowS S (h, t) m (k + 1) = lowS S (h, t) m k) := Lib.hid (fun q => by
        rw [cmpQ_neg] at q
        exact lowS_keep q)
      have J1 : Hid (psB (S k).kind m = true → ((lowS S (h, t) m k).1 = 0 ∨ cmpQ (upX (h, t) (S k).pt) (lowS S (h, t) m k).2 < 0) → lowS S (h, t) m (k + 1) = ((S k).id, upX (h, t) (S k).pt)) := Lib.hid (fun q1 q => by
        rw [cmpQ_neg] at q
        exact lowS_take q1 q)
      clear zk zu
      generalize lowS S (h, t) m k = lo at *
      obtain ⟨li, lx⟩ := lo
      simp only at P3 J0 J1 J2 R12 K12
      generalize upX (h, t) (S k).pt = ux at *
      generalize hzz : cmpQ ux lx = z at *
      clear hzz
      generalize psB (S k).kind m = q at *
      generalize (S k).id = a1 at *
      generalize (S k).frm = a2 at *
      generalize (S k).dst = a3 at *
      generalize (S k).kind = a4 at *
      generalize (S k).pt.1 = s1 at *
      generalize (S k).pt.2.1 = s2 at *
      generalize (S k).pt.2.2 = s3 at *
      go_upto_region 10 with fail
      have Q1 := Lib.hid (fun W (_ : Below wr.heap.size wr W) => Q0.out W)
      clear Q0
      have LC0 := fun (w' : World) (h : Ap wr.heap.size wr.heap.size wr w') => h.cellV c0
      have LC1 := fun (w' : World) (h : Ap wr.heap.size wr.heap.size wr w') => h.cellV c1
      have LC2 := fun (w' : World) (h : Ap wr.heap.size wr.heap.size wr w') => h.cellV c2
      have LC3 := fun (w' : World) (h : Ap wr.heap.size wr.heap.size wr w') => h.cellV c3
      have LC4 := fun (w' : World) (h : Ap wr.heap.size wr.heap.size wr w') => h.cellV c4
      have LC5 := fun (w' : World) (h : Ap wr.heap.size wr.heap.size wr w') => h.cellV c5
      have LC6 := fun (w' : World) (h : Ap wr.heap.size wr.heap.size wr w') => h.cellV c6
      have LR4 := fun (w' : World) (h : Ap wr.heap.size wr.heap.size wr w') => rowc2 (h.rowV R4.out)
      have hvr := Below.refl wr.heap.size wr
      have hv0 := hvr.drew
      first
      | go_region_held3 (fun w' => Ap wr.heap.size wr.heap.size wr w') (first | (with_reducible assumption) | (with_reducible exact Ap.refl _ _ _) | ((repeat (first | with_reducible assumption | with_reducible exact Ap.refl _ _ _ | with_reducible refine Ap.drew ?_ | with_reducible refine Ap.alloc ?_ | with_reducible refine Ap.set1 ?_ | with_reducible refine Ap.set2 ?_ | with_reducible refine Ap.setN (by first | with_reducible assumption | with_reducible exact Nat.le_refl _ | with_reducible exact Nat.le_add_right _ _ | with_reducible exact Nat.le_trans (by assumption) (Nat.le_add_right _ _)) ?_)); done))
          (first
            | (go_at_call 74; (with_reducible refine (Q1.out _ (by first | with_reducible exact hv0 | with_reducible exact bstep hv0 (A1 rfl).1 | with_reducible exact (bstep hv0 (A1 rfl).1).drew | with_reducible exact (bstep hvr (A1 rfl).1).drew)).mono ?_); rintro e wq0 ⟨xp, xd, rfl, kx, hb⟩; have hv1 : Below wr.heap.size wr wq0 := (by first | with_reducible exact bstep (hv0) hb | with_reducible exact bstep (bstep hv0 (A1 rfl).1) hb | with_reducible exact bstep ((bstep hv0 (A1 rfl).1).drew) hb | with_reducible exact bstep ((bstep hvr (A1 rfl).1).drew) hb); have hs1 := Ap.of_below (g := wr.heap.size) (h := wr.heap.size) hv1; have sz1 := hv1.size; have K12 := Lib.hid (by first | with_reducible exact K12.out.below hb | with_reducible exact (K12.out.below (Below.drew (Below.refl _ _))).below hb | with_reducible exact (K12.out.below (A1 rfl).1).below hb | with_reducible exact ((K12.out.below (A1 rfl).1).below (Below.drew (Below.refl _ _))).below hb); (first | (have RN0 : RowKit.Hid (wq0.heap[wr.heap.size]? = some (.cells #[.bool false, .slice none 0 0, .slice none 0 0] 45 (0, 0))) := Lib.hid (by first | exact one_new hb | exact one_newD hb)) | skip); (first | (have RNg := lt_of_row RN0.out; have RNh := Nat.ne_of_lt RNg; have RNi := Nat.ne_of_gt RNg) | skip); have KX := Lib.hid kx; clear kx; (first | (have RNx := row3 RN0.out; obtain ⟨RNf00, RNf01, RNf02, RNf03, RNf04, RNf05⟩ := RNx) | skip); clear hb))
      | fail
      all_goals
        clear LC0 LC1 LC2 LC3 LC4 LC5 LC6 LR4 c0 c1 c2 c3 c4 c5 c6
        first
        | (generalize hZ : World.alloc wq0 _ = Z
           obtain ⟨hbz, hsz, R14⟩ := A1 hZ
           have NE := Lib.hid (show b12 ≠ wq0.heap.size by have := lt_of_row R12.out; have := hv1.size; omega)
           have LE := Lib.hid (show w.heap.size ≤ wq0.heap.size by have := hB.size; have := hv1.size; omega)
           replace hB := bstep (bstep hB hv1) hbz
           have R4 := Lib.hid (keep hbz (keep hv1 R4.out))
           have R12 := Lib.hid (keep hbz (keep hv1 R12.out))
           have R14 := Lib.hid R14
           have K12 := Lib.hid (K12.out.below hbz)
           have KX := Lib.hid (KX.out.below hbz)
           generalize wq0.heap.size = b14 at *)
        | (generalize hZ : World.setCell (World.setCell (World.setCell wq0 _ _) _ _) _ _ = Z
           have NE := Lib.hid (show b12 ≠ wr.heap.size by have := lt_of_row R12.out; omega)
           have N4 : w.heap.size ≠ wr.heap.size := by have := lt_of_row R4.out; omega
           have LE := Lib.hid (show w.heap.size ≤ wr.heap.size by have := hB.size; omega)
           have hB2 := bstep hB hv1
           have hbz : Below w.heap.size wq0 Z := hZ ▸ store3_below (Below.refl _ _) LE.out _ _ _
           have R4 := Lib.hid (hZ ▸ store3_other N4 (keep hv1 R4.out) (.bool (sgB ux.num)) (.slice xp.A xp.n xp.c) (.slice xd.A xd.n xd.c))
           have R12 := Lib.hid (hZ ▸ store3_other NE.out (keep hv1 R12.out) (.bool (sgB ux.num)) (.slice xp.A xp.n xp.c) (.slice xd.A xd.n xd.c))
           have R14 := Lib.hid (hZ ▸ store3 RN0.out (.bool (sgB ux.num)) (.slice xp.A xp.n xp.c) (.slice xd.A xd.n xd.c))
           have K12 := Lib.hid (hZ ▸ K12.out.store3 RN0.out)
           have KX := Lib.hid (hZ ▸ KX.out.store3 RN0.out)
           replace hB := hB2.trans hbz
           clear hB2 hbz N4
           generalize wr.heap.size = b14 at *)
        clear hZ
        (try clear Q1)
        (try clear RN0)
        (try clear hbz hsz sz1)
        have P3' := P3
        clear P3
        obtain ⟨c0, c1, c2, c3, c4, c5, c6⟩ := HC0.out Z hB
        go_wp2_with fail
        clear c0 c1 c2 c3 c4 c5 c6
        refine (P1.out _).mono ?_
        rintro e w5 ⟨rfl, hb⟩
        replace hB := bstep hB hb
        have R4 := Lib.hid (keep hb R4.out)
        have R12 := Lib.hid (keep hb R12.out)
        have R14 := Lib.hid (keep hb R14.out)
        have K12 := Lib.hid (K12.out.below hb)
        have KX := Lib.hid (KX.out.below hb)
        clear hb
        cases q
        · have HN := Lib.hid (J0.out rfl)
          clear J0 J1 J2
          go_wp2_with fail
          go_roundw
          case rel => exact ⟨k + 1, p, d, by omega, by rw [HN.out], by go_num, hB, R4, by rw [HN.out]; exact R12, by rw [HN.out]; exact K12⟩
          case measure => simp [intOf]; omega
        · have K1 := Lib.hid (J1.out rfl)
          clear J0 J1
          by_cases hi0 : li = 0
          · have HN := Lib.hid (K1.out (.inl hi0))
            clear K1 J2 P3'
            subst hi0
            go_upto_region 12 with fail
            obtain ⟨c0, _, _, _, _, _, _⟩ := HC0.out _ hB
            have n1 := NE.out
            have n2 := NE.out.symm
            obtain ⟨x0, x1, x2⟩ := rowc3 R14.out
            have RO := R12
            obtain ⟨R12c0, R12c1, R12c2, R12f0, R12f1, R12f2⟩ := row3 R12.out
            go_region
            all_goals
              generalize hZ2 : World.drew _ = Z2
              have R12 := Lib.hid (hZ2 ▸ drew_row3 (store3 R12.out (.bool (sgB ux.num)) (.slice xp.A xp.n xp.c) (.slice xd.A xd.n xd.c)))
              have R4 := Lib.hid (hZ2 ▸ drew_row3 (store3_other N4.out R4.out (.bool (sgB ux.num)) (.slice xp.A xp.n xp.c) (.slice xd.A xd.n xd.c)))
              have KX := Lib.hid (hZ2 ▸ (KX.out.store3 RO.out).below (Below.drew (Below.refl _ _)))
              have hB := hZ2 ▸ Below.drew (store3_below hB LE12.out _ _ _)
              clear hZ2
              go_wp2_with fail
              go_roundw
              case rel => exact ⟨k + 1, xp, xd, by omega, by rw [HN.out], by go_num, hB, R4, by rw [HN.out]; exact R12, by rw [HN.out]; exact KX⟩
              case measure => simp [intOf]; omega
          · have hi1 : (li == 0) = false := by rw [beq_eq_false_iff_ne]; exact hi0
            by_cases hz : z < 0
            · have HN := Lib.hid (K1.out (.inr hz))
              rw [decide_eq_true hz] at P3'
              clear K1 J2 hz
              obtain ⟨R12c0, R12c1, R12c2, R12f0, R12f1, R12f2⟩ := row3 R12.out
              obtain ⟨R14c0, R14c1, R14c2, R14f0, R14f1, R14f2⟩ := row3 R14.out
              go_wp2_with fail
              clear R12c0 R12c1 R12c2 R12f0 R12f1 R12f2
              clear R14c0 R14c1 R14c2 R14f0 R14f1 R14f2
              refine (P3'.out _ _ _ _ _ KX.out K12.out).mono ?_
              rintro e w6 ⟨rfl, hb⟩
              replace hB := bstep hB hb
              have R4 := Lib.hid (keep hb R4.out)
              have R12 := Lib.hid (keep hb R12.out)
              have R14 := Lib.hid (keep hb R14.out)
              have K12 := Lib.hid (K12.out.below hb)
              have KX := Lib.hid (KX.out.below hb)
              clear hb
              go_upto_region 12 with fail
              obtain ⟨c0, _, _, _, _, _, _⟩ := HC0.out _ hB
              have n1 := NE.out
              have n2 := NE.out.symm
              obtain ⟨x0, x1, x2⟩ := rowc3 R14.out
              have RO := R12
              obtain ⟨R12c0, R12c1, R12c2, R12f0, R12f1, R12f2⟩ := row3 R12.out
              go_region
              all_goals
                generalize hZ2 : World.drew _ = Z2
                have R12 := Lib.hid (hZ2 ▸ drew_row3 (store3 R12.out (.bool (sgB ux.num)) (.slice xp.A xp.n xp.c) (.slice xd.A xd.n xd.c)))
                have R4 := Lib.hid (hZ2 ▸ drew_row3 (store3_other N4.out R4.out (.bool (sgB ux.num)) (.slice xp.A xp.n xp.c) (.slice xd.A xd.n xd.c)))
                have KX := Lib.hid (hZ2 ▸ (KX.out.store3 RO.out).below (Below.drew (Below.refl _ _)))
                have hB := hZ2 ▸ Below.drew (store3_below hB LE12.out _ _ _)
                clear hZ2
                go_wp2_with fail
                go_roundw
                case rel => exact ⟨k + 1, xp, xd, by omega, by rw [HN.out], by go_num, hB, R4, by rw [HN.out]; exact R12, by rw [HN.out]; exact KX⟩
                case measure => simp [intOf]; omega
            · have HN := Lib.hid (J2.out (fun g => g.elim hi0 hz))
              rw [decide_eq_false hz] at P3'
              clear K1 J2 hz
              obtain ⟨R12c0, R12c1, R12c2, R12f0, R12f1, R12f2⟩ := row3 R12.out
              obtain ⟨R14c0, R14c1, R14c2, R14f0, R14f1, R14f2⟩ := row3 R14.out
              go_wp2_with fail
              clear R12c0 R12c1 R12c2 R12f0 R12f1 R12f2
              clear R14c0 R14c1 R14c2 R14f0 R14f1 R14f2
              refine (P3'.out _ _ _ _ _ KX.out K12.out).mono ?_
              rintro e w6 ⟨rfl, hb⟩
              replace hB := bstep hB hb
              have R4 := Lib.hid (keep hb R4.out)
              have R12 := Lib.hid (keep hb R12.out)
              have K12 := Lib.hid (K12.out.below hb)
              clear hb
              go_wp2_with fail
              go_roundw
              case rel => exact ⟨k + 1, p, d, by omega, by rw [HN.out], by go_num, hB, R4, by rw [HN.out]; exact R12, by rw [HN.out]; exact K12⟩
              case measure => simp [intOf]; omega
    · have hkn : k = n := by omega
      subst hkn
      have HT := Lib.hid (fun W p d (k1 : RQ W p d (lowS S (h, t) m k).2) => r3_To _ p d W k1 ((HZ.out k (Nat.le_refl _)).mono (by decide)))
      generalize lowS S (h, t) m k = lo at *
      obtain ⟨li, lx⟩ := lo
      simp only at HT HRES R12 K12
      by_cases hi0 : li = 0
      · have HR := HRES.out
        rw [if_pos hi0] at HR
        have HR := Lib.hid HR
        subst hi0
        go_wp2_with fail
        go_ret3
        exact ⟨congrArg _ HR.out, hB⟩
      · have HR := HRES.out
        rw [if_neg hi0] at HR
        have HR := Lib.hid HR
        have hi1 : (li == 0) = false := by rw [beq_eq_false_iff_ne]; exact hi0
        obtain ⟨R12c0, R12c1, R12c2, R12f0, R12f1, R12f2⟩ := row3 R12.out
        go_wp2_with fail
        clear R12c0 R12c1 R12c2 R12f0 R12f1 R12f2
        refine (HT.out _ _ _ K12.out).mono ?_
        rintro e w8 ⟨rfl, hb⟩
        replace hB := bstep hB hb
        clear hb
        go_wp2_with fail
        go_ret3
        exact ⟨congrArg _ HR.out, hB⟩

end Go.Proofs.YthkkdepppjiaeaaGreatDoor

/- The law OpeningHeights. -/
namespace Go.Proofs.YthkkdepppjiaeaaGreatDoor
open Go.RowKit Go.Shelf Go.Sort

attribute [local go_sem] Oper.semAt_some


set_option maxRecDepth 100000 in
set_option maxHeartbeats 4000000 in
theorem la31_hts_no (A : Option Addr) (n c : Nat) (oi of ot ok : Int) (r0 r1 r2 : ByteArray) (h t lo hi : ByteArray) (m b1 b2 b3 : Bool) (w : World) (hE : Env w) (hr : (b1 && (b2 && b3)) = false)
    (hf : ∀ W, Below w.heap.size w W → Calls Tryz.prog 28 #[.slice A n c] W fun e w' => e = .returned (.bool b1) ∧ Below W.heap.size W w')
    (hs : ∀ W, Below w.heap.size w W → Calls Tryz.prog 11 #[.agg #[.string r0, .string r1, .string r2]] W fun e w' => e = .returned (.bool b2) ∧ Below W.heap.size W w')
    (hp : ∀ W, Below w.heap.size w W → Calls Tryz.prog 12 #[.agg #[.string h, .string t, .string lo, .string hi]] W fun e w' => e = .returned (.bool b3) ∧ Below W.heap.size W w') :
    Calls Tryz.prog 6 #[.slice A n c, .agg #[.int .i64 oi, .int .i64 of, .int .i64 ot, .int .i64 ok, .string r0, .string r1, .string r2], .agg #[.string h, .string t, .string lo, .string hi], .bool m] w fun e w' => e = .returned (.bool true) ∧ Below w.heap.size w w' := by
  have HF := Lib.hid hf
  have HS := Lib.hid hs
  have HP := Lib.hid hp
  have HE := Lib.hid hE
  clear hE hf hs hp

  cases b1
  · clear hr
    go_enter Tryz.func6, Tryz.ntmps6
    go_upto_region 1 with fail
    generalize hW : (World.alloc w _).alloc _ = W
    obtain ⟨hB, hsz, R5, R6⟩ := A2 hW
    have R5 := Lib.hid R5
    have R6 := Lib.hid R6
    clear hW hsz
    go_wp2_with fail
    refine (la31_awake _ (HE.out.below hB)).mono ?_
    rintro e w1 ⟨rfl, hb⟩
    replace hB := bstep hB hb
    have R5 := Lib.hid (keep hb R5.out)
    have R6 := Lib.hid (keep hb R6.out)
    clear hb
    go_wp2_with fail
    refine (HF.out _ hB).mono ?_
    rintro e w2 ⟨rfl, hb⟩
    replace hB := bstep hB hb
    have R5 := Lib.hid (keep hb R5.out)
    have R6 := Lib.hid (keep hb R6.out)
    clear hb
    go_wp2_with fail
    go_ret
    exact ⟨rfl, hB⟩
  · cases b2
    · clear hr
      go_enter Tryz.func6, Tryz.ntmps6
      go_upto_region 1 with fail
      generalize hW : (World.alloc w _).alloc _ = W
      obtain ⟨hB, hsz, R5, R6⟩ := A2 hW
      have R5 := Lib.hid R5
      have R6 := Lib.hid R6
      clear hW hsz
      go_wp2_with fail
      refine (la31_awake _ (HE.out.below hB)).mono ?_
      rintro e w1 ⟨rfl, hb⟩
      replace hB := bstep hB hb
      have R5 := Lib.hid (keep hb R5.out)
      have R6 := Lib.hid (keep hb R6.out)
      clear hb
      go_wp2_with fail
      refine (HF.out _ hB).mono ?_
      rintro e w2 ⟨rfl, hb⟩
      replace hB := bstep hB hb
      have R5 := Lib.hid (keep hb R5.out)
      have R6 := Lib.hid (keep hb R6.out)
      clear hb
      obtain ⟨R5c0, R5c1, R5c2, R5c3, R5c4, R5c5, R5c6, R5f0, R5f1, R5f2, R5f3, R5f4, R5f5, R5f6⟩ := row7 R5.out
      go_wp2_with fail
      clear R5c0 R5c1 R5c2 R5c3 R5c4 R5c5 R5c6 R5f0 R5f1 R5f2 R5f3 R5f4 R5f5 R5f6
      refine (HS.out _ hB).mono ?_
      rintro e w3 ⟨rfl, hb⟩
      replace hB := bstep hB hb
      have R5 := Lib.hid (keep hb R5.out)
      have R6 := Lib.hid (keep hb R6.out)
      clear hb
      go_wp2_with fail
      go_ret
      exact ⟨rfl, hB⟩
    · obtain rfl : b3 = false := by simpa using hr
      clear hr
      go_enter Tryz.func6, Tryz.ntmps6
      go_upto_region 1 with fail
      generalize hW : (World.alloc w _).alloc _ = W
      obtain ⟨hB, hsz, R5, R6⟩ := A2 hW
      have R5 := Lib.hid R5
      have R6 := Lib.hid R6
      clear hW hsz
      go_wp2_with fail
      refine (la31_awake _ (HE.out.below hB)).mono ?_
      rintro e w1 ⟨rfl, hb⟩
      replace hB := bstep hB hb
      have R5 := Lib.hid (keep hb R5.out)
      have R6 := Lib.hid (keep hb R6.out)
      clear hb
      go_wp2_with fail
      refine (HF.out _ hB).mono ?_
      rintro e w2 ⟨rfl, hb⟩
      replace hB := bstep hB hb
      have R5 := Lib.hid (keep hb R5.out)
      have R6 := Lib.hid (keep hb R6.out)
      clear hb
      obtain ⟨R5c0, R5c1, R5c2, R5c3, R5c4, R5c5, R5c6, R5f0, R5f1, R5f2, R5f3, R5f4, R5f5, R5f6⟩ := row7 R5.out
      go_wp2_with fail
      clear R5c0 R5c1 R5c2 R5c3 R5c4 R5c5 R5c6 R5f0 R5f1 R5f2 R5f3 R5f4 R5f5 R5f6
      refine (HS.out _ hB).mono ?_
      rintro e w3 ⟨rfl, hb⟩
      replace hB := bstep hB hb
      have R5 := Lib.hid (keep hb R5.out)
      have R6 := Lib.hid (keep hb R6.out)
      clear hb
      obtain ⟨R6c0, R6c1, R6c2, R6c3, R6f0, R6f1, R6f2, R6f3⟩ := row4 R6.out
      go_wp2_with fail
      clear R6c0 R6c1 R6c2 R6c3 R6f0 R6f1 R6f2 R6f3
      refine (HP.out _ hB).mono ?_
      rintro e w4 ⟨rfl, hb⟩
      replace hB := bstep hB hb
      have R5 := Lib.hid (keep hb R5.out)
      have R6 := Lib.hid (keep hb R6.out)
      clear hb
      go_wp2_with fail
      go_ret
      exact ⟨rfl, hB⟩


set_option maxRecDepth 100000 in
set_option maxHeartbeats 8000000 in
theorem la31_hts_go (A : Option Addr) (n c : Nat) (oi of ot ok : Int) (r0 r1 r2 : ByteArray) (h t lo hi x y : ByteArray) (m : Bool) (cx a ca li lc : Int) (w : World) (hE : Env w)
    (hf : ∀ W, Below w.heap.size w W → Calls Tryz.prog 28 #[.slice A n c] W fun e w' => e = .returned (.bool true) ∧ Below W.heap.size W w')
    (hs : ∀ W, Below w.heap.size w W → Calls Tryz.prog 11 #[.agg #[.string r0, .string r1, .string r2]] W fun e w' => e = .returned (.bool true) ∧ Below W.heap.size W w')
    (hp : ∀ W, Below w.heap.size w W → Calls Tryz.prog 12 #[.agg #[.string h, .string t, .string lo, .string hi]] W fun e w' => e = .returned (.bool true) ∧ Below W.heap.size W w')
    (h1 : ∀ W, Below w.heap.size w W → Calls Tryz.prog 18 #[.agg #[.int .i64 oi, .int .i64 of, .int .i64 ot, .int .i64 ok, .string r0, .string r1, .string r2], .agg #[.string h, .string t]] W fun e w' => e = .returned (.tuple #[.string x, .int .i64 cx]) ∧ Below W.heap.size W w')
    (h2 : ∀ W, Below w.heap.size w W → Calls Tryz.prog 33 #[.agg #[.int .i64 oi, .int .i64 of, .int .i64 ot, .int .i64 ok, .string r0, .string r1, .string r2], .agg #[.string h, .string t]] W fun e w' => e = .returned (.tuple #[.string x, .int .i64 cx]) ∧ Below W.heap.size W w')
    (h3 : ∀ W, Below w.heap.size w W → Calls Tryz.prog 14 #[.agg #[.int .i64 oi, .int .i64 of, .int .i64 ot, .int .i64 ok, .string r0, .string r1, .string r2], .agg #[.string h, .string t, .string lo, .string hi]] W fun e w' => e = .returned (.tuple #[.int .i64 a, .int .i64 ca]) ∧ Below W.heap.size W w')
    (h4 : ∀ W, Below w.heap.size w W → Calls Tryz.prog 34 #[.agg #[.int .i64 oi, .int .i64 of, .int .i64 ot, .int .i64 ok, .string r0, .string r1, .string r2], .agg #[.string h, .string t, .string lo, .string hi]] W fun e w' => e = .returned (.tuple #[.int .i64 a, .int .i64 ca]) ∧ Below W.heap.size W w')
    (h5 : ∀ W, Below w.heap.size w W → Calls Tryz.prog 35 #[.slice A n c, .agg #[.string h, .string t], .bool m] W fun e w' => e = .returned (.tuple #[.int .i64 li, .string y, .int .i64 lc]) ∧ Below W.heap.size W w')
    (h6 : ∀ W, Below w.heap.size w W → Calls Tryz.prog 36 #[.slice A n c, .agg #[.string h, .string t], .bool m] W fun e w' => e = .returned (.tuple #[.int .i64 li, .string y, .int .i64 lc]) ∧ Below W.heap.size W w') :
    Calls Tryz.prog 6 #[.slice A n c, .agg #[.int .i64 oi, .int .i64 of, .int .i64 ot, .int .i64 ok, .string r0, .string r1, .string r2], .agg #[.string h, .string t, .string lo, .string hi], .bool m] w fun e w' => e = .returned (.bool true) ∧ Below w.heap.size w w' := by
  have HF := Lib.hid hf
  have HS := Lib.hid hs
  have HP := Lib.hid hp
  have H1 := Lib.hid h1
  have H2 := Lib.hid h2
  have H3 := Lib.hid h3
  have H4 := Lib.hid h4
  have H5 := Lib.hid h5
  have H6 := Lib.hid h6
  have HE := Lib.hid hE
  clear hE hf hs hp h1 h2 h3 h4 h5 h6

  go_enter Tryz.func6, Tryz.ntmps6
  go_upto_region 1 with fail
  generalize hW : (World.alloc w _).alloc _ = W
  obtain ⟨hB, hsz, R5, R6⟩ := A2 hW
  have R5 := Lib.hid R5
  have R6 := Lib.hid R6
  clear hW hsz
  go_wp2_with fail
  refine (la31_awake _ (HE.out.below hB)).mono ?_
  rintro e w1 ⟨rfl, hb⟩
  replace hB := bstep hB hb
  have R5 := Lib.hid (keep hb R5.out)
  have R6 := Lib.hid (keep hb R6.out)
  clear hb
  go_wp2_with fail
  refine (HF.out _ hB).mono ?_
  rintro e w2 ⟨rfl, hb⟩
  replace hB := bstep hB hb
  have R5 := Lib.hid (keep hb R5.out)
  have R6 := Lib.hid (keep hb R6.out)
  clear hb
  obtain ⟨R5c0, R5c1, R5c2, R5c3, R5c4, R5c5, R5c6, R5f0, R5f1, R5f2, R5f3, R5f4, R5f5, R5f6⟩ := row7 R5.out
  go_wp2_with fail
  clear R5c0 R5c1 R5c2 R5c3 R5c4 R5c5 R5c6 R5f0 R5f1 R5f2 R5f3 R5f4 R5f5 R5f6
  refine (HS.out _ hB).mono ?_
  rintro e w3 ⟨rfl, hb⟩
  replace hB := bstep hB hb
  have R5 := Lib.hid (keep hb R5.out)
  have R6 := Lib.hid (keep hb R6.out)
  clear hb
  obtain ⟨R6c0, R6c1, R6c2, R6c3, R6f0, R6f1, R6f2, R6f3⟩ := row4 R6.out
  go_wp2_with fail
  clear R6c0 R6c1 R6c2 R6c3 R6f0 R6f1 R6f2 R6f3
  refine (HP.out _ hB).mono ?_
  rintro e w4 ⟨rfl, hb⟩
  replace hB := bstep hB hb
  have R5 := Lib.hid (keep hb R5.out)
  have R6 := Lib.hid (keep hb R6.out)
  clear hb
  obtain ⟨R5c0, R5c1, R5c2, R5c3, R5c4, R5c5, R5c6, R5f0, R5f1, R5f2, R5f3, R5f4, R5f5, R5f6⟩ := row7 R5.out
  obtain ⟨R6c0, R6c1, R6c2, R6c3, R6f0, R6f1, R6f2, R6f3⟩ := row4 R6.out
  go_wp2_with fail
  clear R5c0 R5c1 R5c2 R5c3 R5c4 R5c5 R5c6 R5f0 R5f1 R5f2 R5f3 R5f4 R5f5 R5f6
  clear R6c0 R6c1 R6c2 R6c3 R6f0 R6f1 R6f2 R6f3
  refine (H1.out _ hB).mono ?_
  rintro e w5 ⟨rfl, hb⟩
  replace hB := bstep hB hb
  have R5 := Lib.hid (keep hb R5.out)
  have R6 := Lib.hid (keep hb R6.out)
  clear hb
  obtain ⟨R5c0, R5c1, R5c2, R5c3, R5c4, R5c5, R5c6, R5f0, R5f1, R5f2, R5f3, R5f4, R5f5, R5f6⟩ := row7 R5.out
  obtain ⟨R6c0, R6c1, R6c2, R6c3, R6f0, R6f1, R6f2, R6f3⟩ := row4 R6.out
  go_wp2_with fail
  clear R5c0 R5c1 R5c2 R5c3 R5c4 R5c5 R5c6 R5f0 R5f1 R5f2 R5f3 R5f4 R5f5 R5f6
  clear R6c0 R6c1 R6c2 R6c3 R6f0 R6f1 R6f2 R6f3
  refine (H2.out _ hB).mono ?_
  rintro e w6 ⟨rfl, hb⟩
  replace hB := bstep hB hb
  have R5 := Lib.hid (keep hb R5.out)
  have R6 := Lib.hid (keep hb R6.out)
  clear hb
  obtain ⟨R5c0, R5c1, R5c2, R5c3, R5c4, R5c5, R5c6, R5f0, R5f1, R5f2, R5f3, R5f4, R5f5, R5f6⟩ := row7 R5.out
  obtain ⟨R6c0, R6c1, R6c2, R6c3, R6f0, R6f1, R6f2, R6f3⟩ := row4 R6.out
  go_wp2_with fail
  clear R5c0 R5c1 R5c2 R5c3 R5c4 R5c5 R5c6 R5f0 R5f1 R5f2 R5f3 R5f4 R5f5 R5f6
  clear R6c0 R6c1 R6c2 R6c3 R6f0 R6f1 R6f2 R6f3
  refine (H3.out _ hB).mono ?_
  rintro e w7 ⟨rfl, hb⟩
  replace hB := bstep hB hb
  have R5 := Lib.hid (keep hb R5.out)
  have R6 := Lib.hid (keep hb R6.out)
  clear hb
  obtain ⟨R5c0, R5c1, R5c2, R5c3, R5c4, R5c5, R5c6, R5f0, R5f1, R5f2, R5f3, R5f4, R5f5, R5f6⟩ := row7 R5.out
  obtain ⟨R6c0, R6c1, R6c2, R6c3, R6f0, R6f1, R6f2, R6f3⟩ := row4 R6.out
  go_wp2_with fail
  clear R5c0 R5c1 R5c2 R5c3 R5c4 R5c5 R5c6 R5f0 R5f1 R5f2 R5f3 R5f4 R5f5 R5f6
  clear R6c0 R6c1 R6c2 R6c3 R6f0 R6f1 R6f2 R6f3
  refine (H4.out _ hB).mono ?_
  rintro e w8 ⟨rfl, hb⟩
  replace hB := bstep hB hb
  have R5 := Lib.hid (keep hb R5.out)
  have R6 := Lib.hid (keep hb R6.out)
  clear hb
  obtain ⟨R6c0, R6c1, R6c2, R6c3, R6f0, R6f1, R6f2, R6f3⟩ := row4 R6.out
  go_wp2_with fail
  clear R6c0 R6c1 R6c2 R6c3 R6f0 R6f1 R6f2 R6f3
  refine (H5.out _ hB).mono ?_
  rintro e w9 ⟨rfl, hb⟩
  replace hB := bstep hB hb
  have R5 := Lib.hid (keep hb R5.out)
  have R6 := Lib.hid (keep hb R6.out)
  clear hb
  obtain ⟨R6c0, R6c1, R6c2, R6c3, R6f0, R6f1, R6f2, R6f3⟩ := row4 R6.out
  go_wp2_with fail
  clear R6c0 R6c1 R6c2 R6c3 R6f0 R6f1 R6f2 R6f3
  refine (H6.out _ hB).mono ?_
  rintro e w10 ⟨rfl, hb⟩
  replace hB := bstep hB hb
  have R5 := Lib.hid (keep hb R5.out)
  have R6 := Lib.hid (keep hb R6.out)
  clear hb
  go_wp2_with fail
  go_ret
  exact ⟨rfl, hB⟩


theorem opC_zero {S : Nat → Opn} {i : Nat} (h : opC S i = 0) : RngO (S i).id (S i).frm (S i).dst (S i).kind ∧ vvB (S i).pt = true := by
  unfold opC at h
  by_cases g : RngO (S i).id (S i).frm (S i).dst (S i).kind
  · rw [if_neg (fun k => k g)] at h
    refine ⟨g, ?_⟩
    split at h
    · exact absurd h (by decide)
    · split at h
      · exact absurd h (by decide)
      · split at h
        · assumption
        · exact absurd h (by decide)
  · rw [if_pos g] at h
    exact absurd h (by decide)
/-- What Lowest answers. -/
noncomputable def lowRes (S : Nat → Opn) (s : ByteArray × ByteArray) (m : Bool) (n : Nat) (good : Bool) : Int × ByteArray × Int :=
  if good = true then (if ((rvB s.1 && rvB s.2) && inR (rvX s.1) (rvX s.2)) = true then (if (lowS S s m n).1 = 0 then (0, ⟨#[]⟩, 7) else ((lowS S s m n).1, rs (lowS S s m n).2, 0)) else (0, ⟨#[]⟩, acode (rvB s.1 && rvB s.2) (inR (rvX s.1) (rvX s.2)))) else (0, ⟨#[]⟩, 1)
def tup3 (p : Int × ByteArray × Int) : Value := .tuple #[.int .i64 p.1, .string p.2.1, .int .i64 p.2.2]
theorem both_lowest (A : Option Addr) (b off n c : Nat) (S : Nat → Opn) (s : ByteArray × ByteArray) (m : Bool) (w : World) (hA : 0 < n → A = some ⟨b, off, none⟩) (hS : OpsAt w b off n S) (h40 : ∀ i, i < n → S40 (S i).pt) (hs : s.1.size ≤ 40 ∧ s.2.size ≤ 40) (hE : Env w) :
    ∃ good : Bool, (good = true ↔ n ≤ 64 ∧ ∀ i, i < n → opC S i = 0) ∧ (∀ W, Below w.heap.size w W → Calls Tryz.prog 35 #[.slice A n c, .agg #[.string s.1, .string s.2], .bool m] W fun e w' => e = .returned (tup3 (lowRes S s m n good)) ∧ Below W.heap.size W w') ∧ (∀ W, Below w.heap.size w W → Calls Tryz.prog 36 #[.slice A n c, .agg #[.string s.1, .string s.2], .bool m] W fun e w' => e = .returned (tup3 (lowRes S s m n good)) ∧ Below W.heap.size W w') := by
  obtain ⟨ri, rc, hrc, hc, hd⟩ := both_checks A b off n c S w hA hS h40 hE
  refine ⟨rc == 0, by rw [beq_iff_eq]; exact hrc, ?_⟩
  have hG := fun W (hb : Below w.heap.size w W) => r31_Good A n c ri rc W (fun W' hb' => hd W' (bstep hb hb'))
  have hC := fun (W : World) (hE : Env W) => at_Check s W hE (Nat.le_trans hs.1 (by decide)) (Nat.le_trans hs.2 (by decide))
  have u1 : s.1.size ≤ 100 := Nat.le_trans hs.1 (by decide)
  have u2 : s.2.size ≤ 100 := Nat.le_trans hs.2 (by decide)
  have hH : ∀ i, i < n → H40 s (S i).pt := fun i hi => ⟨hs, h40 i hi⟩
  cases hg : (rc == 0) with
  | false =>
    rw [show tup3 (lowRes S s m n false) = .tuple #[.int .i64 0, .string ⟨#[]⟩, .int .i64 1] from rfl]
    refine ⟨fun W hb => op_Lowest_bad A n c s.1 s.2 m ri rc W (by rw [bne, hg]; rfl) (fun W' hb' => hc W' (bstep hb hb')), fun W hb => ?_⟩
    have hG' := hG W hb
    cases hf : ((rvB s.1 && rvB s.2) && inR (rvX s.1) (rvX s.2)) with
    | false =>
      have k := r31_Lowest_err A n c s.1 s.2 m (rc == 0) _ W (acode_ne hf) (fun W' => r16_FrameOf_err s.1 s.2 W' u1 u2 hf) (fun W' hb' => hG W' (bstep hb hb'))
      rw [hg, if_neg (by decide)] at k
      exact k
    | true =>
      have hG2 := fun W' (hb' : Below W.heap.size W W') => hG W' (bstep hb hb')
      rw [hg] at hG2
      exact r31_Lowest_bad A n c s.1 s.2 m _ _ _ _ _ _ _ _ _ W (fun W' => (r16_FrameOf_yes s.1 s.2 W' u1 u2 hf).mono (by
        rintro e w' ⟨fA, fS, fU, h1, _, _, _, h5⟩
        exact ⟨fA, fS, fU, h1, h5⟩)) hG2
  | true =>
    obtain rfl : rc = 0 := by simpa using hg
    have hall := (hrc.1 rfl)
    unfold lowRes
    rw [if_pos rfl]
    cases hf : ((rvB s.1 && rvB s.2) && inR (rvX s.1) (rvX s.2)) with
    | false =>
      rw [if_neg (by decide)]
      refine ⟨fun W hb => op_Lowest_err A n c s.1 s.2 m ri _ W (hE.below hb) (acode_ne hf) (fun W' hb' => hc W' (bstep hb hb')) hC, fun W hb => ?_⟩
      have k := r31_Lowest_err A n c s.1 s.2 m ((0 : Int) == 0) _ W (acode_ne hf) (fun W' => r16_FrameOf_err s.1 s.2 W' u1 u2 hf) (fun W' hb' => hG W' (bstep hb hb'))
      rw [if_pos (by decide)] at k
      exact k
    | true =>
      rw [if_pos rfl]
      have hok : ∀ i, i < n → hokB s (S i).pt = true := fun i hi => by
        have hv := (opC_zero (hall.2 i hi)).2
        unfold hokB
        rw [Bool.and_eq_true] at hf
        rw [hv, hf.1, hf.2]
        rfl
      have hC0 := hC
      rw [acode_yes hf] at hC0
      have e : tup3 (if (lowS S s m n).1 = 0 then (0, ⟨#[]⟩, 7) else ((lowS S s m n).1, rs (lowS S s m n).2, 0)) = (if (lowS S s m n).1 = 0 then Value.tuple #[.int .i64 0, .string ⟨#[]⟩, .int .i64 7] else .tuple #[.int .i64 (lowS S s m n).1, .string (rs (lowS S s m n).2), .int .i64 0]) := by
        split <;> rfl
      rw [e]
      exact ⟨fun W hb => op_Lowest_go A b off n c S s m ri W (hE.below hb) hall.1 hA (hS.below hb) hH hok (fun i hi => by have := (opC_zero (hall.2 i hi)).1.1; omega) (fun W' hb' => hc W' (bstep hb hb')) hC0,
        fun W hb => r31_Lowest_go A b off n c S s m _ _ _ _ _ _ _ _ _ W hall.1 hA (hS.below hb) hH hok (fun W' => (r16_FrameOf_yes s.1 s.2 W' u1 u2 hf).mono (by
          rintro e w' ⟨fA, fS, fU, h1, _, _, _, h5⟩
          exact ⟨fA, fS, fU, h1, h5⟩)) (fun W' hb' => hG W' (bstep hb hb'))⟩
theorem la_op_heights (A : Option Addr) (n c : Nat) (S : Nat → Opn) (o : Opn) (h t lo hi : ByteArray) (m : Bool) (w : World) (hE : Env w) (_ : A = none → n = 0) (hS : OpsIn w A n S) (hn : n ≤ 9223372036854775807) (hM : ∀ i, i < n → Mx (S i).pt) (hr : Mx o.pt)
    (hp : (h.size ≤ 9223372036854775807 ∧ t.size ≤ 9223372036854775807) ∧ lo.size ≤ 9223372036854775807 ∧ hi.size ≤ 9223372036854775807) :
    Calls Tryz.prog 6 #[.slice A n c, opV o, .agg #[.string h, .string t, .string lo, .string hi], .bool m] w fun e w' => e = .returned (.bool true) ∧ Below w.heap.size w w' := by
  obtain ⟨oi, of, ot, ok, r0, r1, r2⟩ := o
  unfold opV
  simp only
  obtain ⟨b, off, hA, hS⟩ := opsIn_at hS
  obtain ⟨r, hrr, h0, h1, h2⟩ := few_dec S n
  have hF := fun W (hb : Below w.heap.size w W) => r31_Few A b off n c S r W hn hA (hS.below hb) hM h0 h1 h2
  have hV := fun W (_ : Below w.heap.size w W) => r16_ShortV r0 r1 r2 W hr.1 hr.2.1 hr.2.2
  have hP := fun W (_ : Below w.heap.size w W) => r31_ShortPosition h t lo hi W hp.1.1 hp.1.2 hp.2.1 hp.2.2
  by_cases hs : r = true ∧ (r0.size ≤ 40 ∧ r1.size ≤ 40 ∧ r2.size ≤ 40) ∧ ((h.size ≤ 40 ∧ t.size ≤ 40) ∧ lo.size ≤ 40 ∧ hi.size ≤ 40)
  · obtain ⟨rfl, ⟨s3, s4, s5⟩, ⟨s1, s2⟩, s6, s7⟩ := hs
    simp only [decide_eq_true s1, decide_eq_true s2, decide_eq_true s6, decide_eq_true s7, Bool.and_self] at hP
    simp only [decide_eq_true s3, decide_eq_true s4, decide_eq_true s5, Bool.and_self] at hV
    have hh : H40 (h, t) (r0, r1, r2) := ⟨⟨s1, s2⟩, s3, s4, s5⟩
    obtain ⟨good, _, hL, hR⟩ := both_lowest A b off n c S (h, t) m w hA hS (hrr.1 rfl).2 ⟨s1, s2⟩ hE
    exact la31_hts_go A n c oi of ot ok r0 r1 r2 h t lo hi _ _ m _ _ _ _ _ w hE hF hV hP (fun W hb => op_HeightA oi of ot ok (h, t) (r0, r1, r2) W (hE.below hb) hh.shH) (fun W _ => r31_HeightA oi of ot ok (h, t) (r0, r1, r2) W hh)
      (fun W hb => op_WetA oi of ot ok (h, t) (r0, r1, r2) lo hi W (hE.below hb) hh.shH (Nat.le_trans s6 (by decide)) (Nat.le_trans s7 (by decide))) (fun W _ => r31_WetA oi of ot ok (h, t) (r0, r1, r2) lo hi W hh s6 s7) hL hR
  · exact la31_hts_no A n c oi of ot ok r0 r1 r2 h t lo hi m _ _ _ w hE (by
      rw [Bool.eq_false_iff]
      intro q
      simp only [Bool.and_eq_true, decide_eq_true_iff] at q
      exact hs q) hF hV hP

end Go.Proofs.YthkkdepppjiaeaaGreatDoor
