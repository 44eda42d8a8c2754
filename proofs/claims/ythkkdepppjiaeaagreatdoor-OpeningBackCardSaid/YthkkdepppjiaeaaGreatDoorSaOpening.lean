/- A PART OF THE PROOF, JOINED OUT OF 2 TEXTS. -/
import Derived.Test.YthkkdepppjiaeaaGreatDoorQxMirrors
import Derived.Test.YthkkdepppjiaeaaGreatDoorPjRational
import Derived.Test.YthkkdepppjiaeaaGreatDoorQvAttitude
import Derived.Test.YthkkdepppjiaeaaGreatDoorQoApart
import Derived.BigRegion
/- Walks of the program's package opening: above, Height, Wet; rational.Compare and interval.Valid at whatever texts. -/
namespace Go.Proofs.YthkkdepppjiaeaaGreatDoor
open Go.RowKit Go.Shelf Go.Sort

attribute [local go_sem] Oper.semAt_some

theorem rowc7 {W : World} {g : Nat} {v0 v1 v2 v3 v4 v5 v6 : Value} {t : TypeId} (h : W.heap[g]? = some (.cells #[v0, v1, v2, v3, v4, v5, v6] t (0, 0))) : W.cell? ⟨g, 0, none⟩ = some v0 ∧ W.cell? ⟨g, 1, none⟩ = some v1 ∧ W.cell? ⟨g, 2, none⟩ = some v2 ∧ W.cell? ⟨g, 3, none⟩ = some v3 ∧ W.cell? ⟨g, 4, none⟩ = some v4 ∧ W.cell? ⟨g, 5, none⟩ = some v5 ∧ W.cell? ⟨g, 6, none⟩ = some v6 :=
  ⟨cell_of_row W _ 0 _ _ _ h, cell_of_row W _ 1 _ _ _ h, cell_of_row W _ 2 _ _ _ h, cell_of_row W _ 3 _ _ _ h, cell_of_row W _ 4 _ _ _ h, cell_of_row W _ 5 _ _ _ h, cell_of_row W _ 6 _ _ _ h⟩
theorem row7 {W : World} {g : Nat} {v0 v1 v2 v3 v4 v5 v6 : Value} {t : TypeId} (h : W.heap[g]? = some (.cells #[v0, v1, v2, v3, v4, v5, v6] t (0, 0))) : W.cell? ⟨g, 0, none⟩ = some v0 ∧ W.cell? ⟨g, 1, none⟩ = some v1 ∧ W.cell? ⟨g, 2, none⟩ = some v2 ∧ W.cell? ⟨g, 3, none⟩ = some v3 ∧ W.cell? ⟨g, 4, none⟩ = some v4 ∧ W.cell? ⟨g, 5, none⟩ = some v5 ∧ W.cell? ⟨g, 6, none⟩ = some v6 ∧ W.frozen? ⟨g, 0, none⟩ = false ∧ W.frozen? ⟨g, 1, none⟩ = false ∧ W.frozen? ⟨g, 2, none⟩ = false ∧ W.frozen? ⟨g, 3, none⟩ = false ∧ W.frozen? ⟨g, 4, none⟩ = false ∧ W.frozen? ⟨g, 5, none⟩ = false ∧ W.frozen? ⟨g, 6, none⟩ = false :=
  ⟨cell_of_row W _ 0 _ _ _ h, cell_of_row W _ 1 _ _ _ h, cell_of_row W _ 2 _ _ _ h, cell_of_row W _ 3 _ _ _ h, cell_of_row W _ 4 _ _ _ h, cell_of_row W _ 5 _ _ _ h, cell_of_row W _ 6 _ _ _ h, frozen_of_row W _ 0 _ _ h, frozen_of_row W _ 1 _ _ h, frozen_of_row W _ 2 _ _ h, frozen_of_row W _ 3 _ _ h, frozen_of_row W _ 4 _ _ h, frozen_of_row W _ 5 _ _ h, frozen_of_row W _ 6 _ _ h⟩


set_option maxRecDepth 100000 in
set_option maxHeartbeats 4000000 in
theorem ra_both_bad (a b : ByteArray) (w : World) (hE : Env w) (ha : a.size ≤ 10000000) (hb : b.size ≤ 10000000) (hv : (rvB a && rvB b) = false) :
    Calls Tryz.prog 138 #[.string a, .string b] w fun e w' => e = .returned (.tuple #[.agg #[.string ⟨#[]⟩, .string ⟨#[]⟩], .agg #[.string ⟨#[]⟩, .string ⟨#[]⟩], .int .i64 1]) ∧ Below w.heap.size w w' := by
  have HX := Lib.hid (fun w hE => ra_read_any a w hE ha)
  have HY := Lib.hid (fun w hE => ra_read_any b w hE hb)
  have HE := Lib.hid hE
  clear hE ha hb
  generalize rvB a = va at *
  generalize rvB b = vb at *
  go_enter Tryz.func138, Tryz.ntmps138
  go_wp2_with fail
  generalize hW : (World.alloc w _).alloc _ = W
  obtain ⟨hB, hsz, R4, R5⟩ := A2 hW
  have R4 := Lib.hid R4
  have R5 := Lib.hid R5
  clear hW hsz
  refine (HX.out _ (HE.out.below hB)).mono ?_
  rintro e w1 ⟨p, q, rfl, hb⟩
  replace hB := bstep hB hb
  have R4 := Lib.hid (keep hb R4.out)
  have R5 := Lib.hid (keep hb R5.out)
  clear hb
  go_wp2_with fail
  generalize hW : World.alloc _ _ = V
  obtain ⟨hb, hsz, R7⟩ := A1 hW
  replace hB := bstep hB hb
  have R4 := Lib.hid (keep hb R4.out)
  have R5 := Lib.hid (keep hb R5.out)
  clear hb
  have R7 := Lib.hid R7
  clear hW hsz
  refine (HY.out _ (HE.out.below hB)).mono ?_
  rintro e w2 ⟨p2, q2, rfl, hb⟩
  replace hB := bstep hB hb
  have R4 := Lib.hid (keep hb R4.out)
  have R5 := Lib.hid (keep hb R5.out)
  clear hb R7
  cases va <;> cases vb
  all_goals
    first
    | (exfalso; exact absurd hv (by decide))
    | skip
  all_goals
    go_upto_region 4 with fail
    generalize hW : World.alloc _ _ = U
    obtain ⟨hb, hsz, R9⟩ := A1 hW
    replace hB := bstep hB hb
    have R4 := Lib.hid (keep hb R4.out)
    have R5 := Lib.hid (keep hb R5.out)
    clear hb
    have R9 := Lib.hid R9
    clear hW hsz
    obtain ⟨R4c0, R4c1, R4f0, R4f1⟩ := row2 R4.out
    obtain ⟨R5c0, R5c1, R5f0, R5f1⟩ := row2 R5.out
    go_wp2_with fail
    exact bodyPost_ret (res_cct rfl frac_row frac_row rfl rfl (store2_other (by omega) (store2 R4.out _ _) _ _) (store2 (store2_other (by omega) R5.out _ _) _ _) rfl rfl) rfl ⟨rfl, store2_below (store2_below hB (Nat.le_refl _) _ _) (by omega) _ _⟩


set_option maxRecDepth 100000 in
set_option maxHeartbeats 4000000 in
theorem ra_Compare_bad (a b : ByteArray) (w : World) (hE : Env w) (ha : a.size ≤ 10000000) (hb : b.size ≤ 10000000) (hv : (rvB a && rvB b) = false) :
    Calls Tryz.prog 95 #[.string a, .string b] w fun e w' => e = .returned (.tuple #[.int .i64 0, .int .i64 1]) ∧ Below w.heap.size w w' := by
  have HB := Lib.hid (ra_both_bad a b w hE ha hb hv)
  clear hE ha hb hv
  go_enter Tryz.func95, Tryz.ntmps95
  go_wp2_with fail
  refine HB.out.mono ?_
  rintro e w1 ⟨rfl, hB⟩
  go_wp2_with fail
  exact bodyPost_ret (results_tmp2 rfl _ _ _) rfl ⟨rfl, bstep hB (A2 rfl).1⟩


set_option maxRecDepth 100000 in
set_option maxHeartbeats 4000000 in
theorem iv_Valid_no (a b : ByteArray) (z : Int) (w : World) (hE : Env w)
    (h1 : ∀ w, Env w → Calls Tryz.prog 95 #[.string a, .string b] w fun e w' => e = .returned (.tuple #[.int .i64 z, .int .i64 1]) ∧ Below w.heap.size w w') :
    Calls Tryz.prog 49 #[.agg #[.string a, .string b]] w fun e w' => e = .returned (.bool false) ∧ Below w.heap.size w w' := by
  have HA := Lib.hid h1
  have HE := Lib.hid hE
  clear hE h1
  go_enter Tryz.func49, Tryz.ntmps49
  go_wp2_with fail
  generalize hW : World.alloc w _ = W
  obtain ⟨hB, hsz, R1⟩ := A1 hW
  have R1 := Lib.hid R1
  clear hW hsz
  obtain ⟨R1c0, R1c1, R1f0, R1f1⟩ := row2 R1.out
  go_wp2_with fail
  clear R1c0 R1c1 R1f0 R1f1
  refine (HA.out _ (HE.out.below hB)).mono ?_
  rintro e w1 ⟨rfl, hb⟩
  replace hB := bstep hB hb
  clear hb
  go_wp2_with fail
  go_ret
  exact ⟨rfl, hB⟩


set_option maxRecDepth 100000 in
set_option maxHeartbeats 4000000 in
theorem iv_Valid_yes (a b : ByteArray) (z : Int) (w : World) (hE : Env w)
    (h1 : ∀ w, Env w → Calls Tryz.prog 95 #[.string a, .string b] w fun e w' => e = .returned (.tuple #[.int .i64 z, .int .i64 0]) ∧ Below w.heap.size w w') :
    Calls Tryz.prog 49 #[.agg #[.string a, .string b]] w fun e w' => e = .returned (.bool (decide (z ≤ 0))) ∧ Below w.heap.size w w' := by
  have HA := Lib.hid h1
  have HE := Lib.hid hE
  clear hE h1
  go_enter Tryz.func49, Tryz.ntmps49
  go_wp2_with fail
  generalize hW : World.alloc w _ = W
  obtain ⟨hB, hsz, R1⟩ := A1 hW
  have R1 := Lib.hid R1
  clear hW hsz
  obtain ⟨R1c0, R1c1, R1f0, R1f1⟩ := row2 R1.out
  go_wp2_with fail
  clear R1c0 R1c1 R1f0 R1f1
  refine (HA.out _ (HE.out.below hB)).mono ?_
  rintro e w1 ⟨rfl, hb⟩
  replace hB := bstep hB hb
  clear hb
  go_wp2_with fail
  go_ret
  exact ⟨rfl, hB⟩
theorem rat_is {s : ByteArray} (h : rvB s = true) : s = rs (rvX s) := by
  obtain ⟨x, hx⟩ := (rvB_iff s).1 h
  rw [hx, rvX_rs]
/-- An interval is valid. -/
noncomputable def ivOk (a b : ByteArray) : Bool := (rvB a && rvB b) && decide (cmpQ (rvX a) (rvX b) ≤ 0)
theorem iv_ValidA (a b : ByteArray) (w : World) (hE : Env w) (ha : a.size ≤ 100000) (hb : b.size ≤ 100000) :
    Calls Tryz.prog 49 #[.agg #[.string a, .string b]] w fun e w' => e = .returned (.bool (ivOk a b)) ∧ Below w.heap.size w w' := by
  unfold ivOk
  cases hv : (rvB a && rvB b) with
  | false => exact iv_Valid_no a b 0 w hE fun w hE => ra_Compare_bad a b w hE (by omega) (by omega) hv
  | true =>
    rw [Bool.and_eq_true] at hv
    refine iv_Valid_yes a b _ w hE fun w hE => ?_
    have k := ra_Compare (rvX a) (rvX b) w hE ((sz_rvX ha (by decide)).mono (by decide)) ((sz_rvX hb (by decide)).mono (by decide))
    rw [← rat_is hv.1, ← rat_is hv.2] at k
    exact k
theorem op_above (x y : Rat) (w : World) (hE : Env w) (hx : Sz 5000000 x) (hy : Sz 5000000 y) :
    Calls Tryz.prog 50 #[.string (rs x), .string (rs y)] w fun e w' => e = .returned (.bool (decide (0 < cmpQ x y))) ∧ Below w.heap.size w w' := by
  have HA := Lib.hid (ra_Compare x y w hE hx hy)
  clear hE hx hy
  generalize cmpQ x y = z at *
  go_enter Tryz.func50, Tryz.ntmps50
  go_wp2_with fail
  refine HA.out.mono ?_
  rintro e w1 ⟨rfl, hB⟩
  go_wp2_with fail
  go_ret
  exact ⟨rfl, hB⟩


set_option maxRecDepth 100000 in
set_option maxHeartbeats 4000000 in
theorem op_Height_bad (oi of ot ok : Int) (r0 r1 r2 : ByteArray) (h t : ByteArray) (w : World) (hE : Env w)
    (hv : ∀ w, Env w → Calls Tryz.prog 61 #[.agg #[.string r0, .string r1, .string r2]] w fun e w' => e = .returned (.bool false) ∧ Below w.heap.size w w') :
    Calls Tryz.prog 18 #[.agg #[.int .i64 oi, .int .i64 of, .int .i64 ot, .int .i64 ok, .string r0, .string r1, .string r2], .agg #[.string h, .string t]] w fun e w' => e = .returned (.tuple #[.string ⟨#[]⟩, .int .i64 1]) ∧ Below w.heap.size w w' := by
  have HV := Lib.hid hv
  have HE := Lib.hid hE
  clear hE hv
  go_enter Tryz.func18, Tryz.ntmps18
  go_upto_region 1 with fail
  generalize hW : (World.alloc w _).alloc _ = W
  obtain ⟨hB, hsz, R2, R3⟩ := A2 hW
  have R2 := Lib.hid R2
  have R3 := Lib.hid R3
  clear hW hsz
  obtain ⟨R2c0, R2c1, R2c2, R2c3, R2c4, R2c5, R2c6, R2f0, R2f1, R2f2, R2f3, R2f4, R2f5, R2f6⟩ := row7 R2.out
  obtain ⟨R3c0, R3c1, R3f0, R3f1⟩ := row2 R3.out
  go_wp2_with fail
  clear R2c0 R2c1 R2c2 R2c3 R2c4 R2c5 R2c6 R2f0 R2f1 R2f2 R2f3 R2f4 R2f5 R2f6
  clear R3c0 R3c1 R3f0 R3f1
  refine (HV.out _ (HE.out.below hB)).mono ?_
  rintro e w1 ⟨rfl, hb⟩
  replace hB := bstep hB hb
  have R2 := Lib.hid (keep hb R2.out)
  have R3 := Lib.hid (keep hb R3.out)
  clear hb
  go_wp2_with fail
  go_ret2
  exact ⟨rfl, hB⟩


set_option maxRecDepth 100000 in
set_option maxHeartbeats 4000000 in
theorem op_Height_err (oi of ot ok : Int) (r0 r1 r2 : ByteArray) (h t : ByteArray) (cc : Int) (w : World) (hE : Env w) (hc1 : (cc != 0) = true)
    (hv : ∀ w, Env w → Calls Tryz.prog 61 #[.agg #[.string r0, .string r1, .string r2]] w fun e w' => e = .returned (.bool true) ∧ Below w.heap.size w w')
    (ht : ∀ w, Env w → Calls Tryz.prog 62 #[.agg #[.string h, .string t], .agg #[.string r0, .string r1, .string r2]] w fun e w' => e = .returned (.tuple #[.agg #[.string ⟨#[]⟩, .string ⟨#[]⟩, .string ⟨#[]⟩], .int .i64 cc]) ∧ Below w.heap.size w w') :
    Calls Tryz.prog 18 #[.agg #[.int .i64 oi, .int .i64 of, .int .i64 ot, .int .i64 ok, .string r0, .string r1, .string r2], .agg #[.string h, .string t]] w fun e w' => e = .returned (.tuple #[.string ⟨#[]⟩, .int .i64 cc]) ∧ Below w.heap.size w w' := by
  have HV := Lib.hid hv
  have HT := Lib.hid ht
  have HE := Lib.hid hE
  clear hE hv ht
  go_enter Tryz.func18, Tryz.ntmps18
  go_upto_region 1 with fail
  generalize hW : (World.alloc w _).alloc _ = W
  obtain ⟨hB, hsz, R2, R3⟩ := A2 hW
  have R2 := Lib.hid R2
  have R3 := Lib.hid R3
  clear hW hsz
  obtain ⟨R2c0, R2c1, R2c2, R2c3, R2c4, R2c5, R2c6, R2f0, R2f1, R2f2, R2f3, R2f4, R2f5, R2f6⟩ := row7 R2.out
  obtain ⟨R3c0, R3c1, R3f0, R3f1⟩ := row2 R3.out
  go_wp2_with fail
  clear R2c0 R2c1 R2c2 R2c3 R2c4 R2c5 R2c6 R2f0 R2f1 R2f2 R2f3 R2f4 R2f5 R2f6
  clear R3c0 R3c1 R3f0 R3f1
  refine (HV.out _ (HE.out.below hB)).mono ?_
  rintro e w1 ⟨rfl, hb⟩
  replace hB := bstep hB hb
  have R2 := Lib.hid (keep hb R2.out)
  have R3 := Lib.hid (keep hb R3.out)
  clear hb
  obtain ⟨R2c0, R2c1, R2c2, R2c3, R2c4, R2c5, R2c6, R2f0, R2f1, R2f2, R2f3, R2f4, R2f5, R2f6⟩ := row7 R2.out
  obtain ⟨R3c0, R3c1, R3f0, R3f1⟩ := row2 R3.out
  go_wp2_with fail
  clear R2c0 R2c1 R2c2 R2c3 R2c4 R2c5 R2c6 R2f0 R2f1 R2f2 R2f3 R2f4 R2f5 R2f6
  clear R3c0 R3c1 R3f0 R3f1
  refine (HT.out _ (HE.out.below hB)).mono ?_
  rintro e w2 ⟨rfl, hb⟩
  replace hB := bstep hB hb
  clear hb
  go_wp2_with fail
  go_ret2
  exact ⟨rfl, bstep hB (A1 rfl).1⟩


set_option maxRecDepth 100000 in
set_option maxHeartbeats 4000000 in
theorem op_Height_ok (oi of ot ok : Int) (r0 r1 r2 : ByteArray) (h t u0 u1 u2 : ByteArray) (w : World) (hE : Env w)
    (hv : ∀ w, Env w → Calls Tryz.prog 61 #[.agg #[.string r0, .string r1, .string r2]] w fun e w' => e = .returned (.bool true) ∧ Below w.heap.size w w')
    (ht : ∀ w, Env w → Calls Tryz.prog 62 #[.agg #[.string h, .string t], .agg #[.string r0, .string r1, .string r2]] w fun e w' => e = .returned (.tuple #[.agg #[.string u0, .string u1, .string u2], .int .i64 0]) ∧ Below w.heap.size w w') :
    Calls Tryz.prog 18 #[.agg #[.int .i64 oi, .int .i64 of, .int .i64 ot, .int .i64 ok, .string r0, .string r1, .string r2], .agg #[.string h, .string t]] w fun e w' => e = .returned (.tuple #[.string u2, .int .i64 0]) ∧ Below w.heap.size w w' := by
  have HV := Lib.hid hv
  have HT := Lib.hid ht
  have HE := Lib.hid hE
  clear hE hv ht
  go_enter Tryz.func18, Tryz.ntmps18
  go_upto_region 1 with fail
  generalize hW : (World.alloc w _).alloc _ = W
  obtain ⟨hB, hsz, R2, R3⟩ := A2 hW
  have R2 := Lib.hid R2
  have R3 := Lib.hid R3
  clear hW hsz
  obtain ⟨R2c0, R2c1, R2c2, R2c3, R2c4, R2c5, R2c6, R2f0, R2f1, R2f2, R2f3, R2f4, R2f5, R2f6⟩ := row7 R2.out
  obtain ⟨R3c0, R3c1, R3f0, R3f1⟩ := row2 R3.out
  go_wp2_with fail
  clear R2c0 R2c1 R2c2 R2c3 R2c4 R2c5 R2c6 R2f0 R2f1 R2f2 R2f3 R2f4 R2f5 R2f6
  clear R3c0 R3c1 R3f0 R3f1
  refine (HV.out _ (HE.out.below hB)).mono ?_
  rintro e w1 ⟨rfl, hb⟩
  replace hB := bstep hB hb
  have R2 := Lib.hid (keep hb R2.out)
  have R3 := Lib.hid (keep hb R3.out)
  clear hb
  obtain ⟨R2c0, R2c1, R2c2, R2c3, R2c4, R2c5, R2c6, R2f0, R2f1, R2f2, R2f3, R2f4, R2f5, R2f6⟩ := row7 R2.out
  obtain ⟨R3c0, R3c1, R3f0, R3f1⟩ := row2 R3.out
  go_wp2_with fail
  clear R2c0 R2c1 R2c2 R2c3 R2c4 R2c5 R2c6 R2f0 R2f1 R2f2 R2f3 R2f4 R2f5 R2f6
  clear R3c0 R3c1 R3f0 R3f1
  refine (HT.out _ (HE.out.below hB)).mono ?_
  rintro e w2 ⟨rfl, hb⟩
  replace hB := bstep hB hb
  clear hb
  go_wp2_with fail
  go_ret2
  exact ⟨rfl, bstep hB (A1 rfl).1⟩

/-- A height may be told; it. -/
noncomputable def hokB (s : ByteArray × ByteArray) (r : ByteArray × ByteArray × ByteArray) : Bool := ((rvB s.1 && rvB s.2) && vvB r) && inR (rvX s.1) (rvX s.2)
noncomputable def hcode (s : ByteArray × ByteArray) (r : ByteArray × ByteArray × ByteArray) : Int := acode ((rvB s.1 && rvB s.2) && vvB r) (inR (rvX s.1) (rvX s.2))
noncomputable def upX (s : ByteArray × ByteArray) (r : ByteArray × ByteArray × ByteArray) : Rat := (turnV (rvX s.1) (rvX s.2) (vvX r)).z
def hgtR (b : Bool) (x : Rat) : ByteArray := if b = true then rs x else ⟨#[]⟩
theorem hcode_ne {s : ByteArray × ByteArray} {r : ByteArray × ByteArray × ByteArray} (h : hokB s r = false) : (hcode s r != 0) = true := acode_ne h
theorem hcode_yes {s : ByteArray × ByteArray} {r : ByteArray × ByteArray × ByteArray} (h : hokB s r = true) : hcode s r = 0 := by
  unfold hokB at h
  unfold hcode
  rw [Bool.and_eq_true] at h
  rw [h.1, h.2]
  rfl
def ShH (s : ByteArray × ByteArray) (r : ByteArray × ByteArray × ByteArray) : Prop := s.1.size ≤ 100 ∧ s.2.size ≤ 100 ∧ r.1.size ≤ 100 ∧ r.2.1.size ≤ 100 ∧ r.2.2.size ≤ 100
theorem op_HeightA (oi of ot ok : Int) (s : ByteArray × ByteArray) (r : ByteArray × ByteArray × ByteArray) (w : World) (hE : Env w) (hs : ShH s r) :
    Calls Tryz.prog 18 #[.agg #[.int .i64 oi, .int .i64 of, .int .i64 ot, .int .i64 ok, .string r.1, .string r.2.1, .string r.2.2], .agg #[.string s.1, .string s.2]] w fun e w' => e = .returned (.tuple #[.string (hgtR (hokB s r) (upX s r)), .int .i64 (hcode s r)]) ∧ Below w.heap.size w w' := by
  obtain ⟨h1, h2, h3, h4, h5⟩ := hs
  have fw : ∀ {k : Nat}, k ≤ 100 → k ≤ 10000000 := fun h => Nat.le_trans h (by decide)
  have hV := fun w hE => ve_Valid r.1 r.2.1 r.2.2 w hE (fw h3) (fw h4) (fw h5)
  have hT := fun w hE => at_TurnB s r w hE h1 h2 h3 h4 h5
  have ev : (rvB r.1 && rvB r.2.1 && rvB r.2.2) = vvB r := rfl
  rw [ev] at hV
  show Calls _ _ _ _ fun e w' => e = .returned (.tuple #[.string (hgtR (((rvB s.1 && rvB s.2) && vvB r) && inR (rvX s.1) (rvX s.2)) (upX s r)), .int .i64 (acode ((rvB s.1 && rvB s.2) && vvB r) (inR (rvX s.1) (rvX s.2)))]) ∧ _
  cases hr : vvB r with
  | false =>
    rw [hr] at hV
    rw [Bool.and_false, Bool.false_and]
    exact op_Height_bad oi of ot ok r.1 r.2.1 r.2.2 s.1 s.2 w hE hV
  | true =>
    rw [hr] at hV hT
    cases hk : (((rvB s.1 && rvB s.2) && true) && inR (rvX s.1) (rvX s.2)) with
    | false =>
      rw [hk] at hT
      exact op_Height_err oi of ot ok r.1 r.2.1 r.2.2 s.1 s.2 _ w hE (acode_ne hk) hV hT
    | true =>
      rw [hk] at hT
      have ec : acode ((rvB s.1 && rvB s.2) && true) (inR (rvX s.1) (rvX s.2)) = 0 := by
        rw [Bool.and_eq_true] at hk
        rw [hk.1, hk.2]
        rfl
      rw [ec] at hT ⊢
      exact op_Height_ok oi of ot ok r.1 r.2.1 r.2.2 s.1 s.2 _ _ _ w hE hV hT


set_option maxRecDepth 100000 in
set_option maxHeartbeats 4000000 in
theorem op_Wet_err (oi of ot ok : Int) (r0 r1 r2 : ByteArray) (h t lo hi z : ByteArray) (v : Bool) (cc : Int) (w : World) (hE : Env w) (hc : v = false ∨ (cc != 0) = true)
    (hh : ∀ w, Env w → Calls Tryz.prog 18 #[.agg #[.int .i64 oi, .int .i64 of, .int .i64 ot, .int .i64 ok, .string r0, .string r1, .string r2], .agg #[.string h, .string t]] w fun e w' => e = .returned (.tuple #[.string z, .int .i64 cc]) ∧ Below w.heap.size w w')
    (hv : ∀ w, Env w → Calls Tryz.prog 49 #[.agg #[.string lo, .string hi]] w fun e w' => e = .returned (.bool v) ∧ Below w.heap.size w w') :
    Calls Tryz.prog 14 #[.agg #[.int .i64 oi, .int .i64 of, .int .i64 ot, .int .i64 ok, .string r0, .string r1, .string r2], .agg #[.string h, .string t, .string lo, .string hi]] w fun e w' => e = .returned (.tuple #[.int .i64 0, .int .i64 (if v = true then cc else 1)]) ∧ Below w.heap.size w w' := by
  have HH := Lib.hid hh
  have HV := Lib.hid hv
  have HE := Lib.hid hE
  clear hE hh hv
  have HC := Lib.hid hc
  clear hc
  cases v
  · clear HC
    go_enter Tryz.func14, Tryz.ntmps14
    go_upto_region 1 with fail
    generalize hW : (World.alloc w _).alloc _ = W
    obtain ⟨hB, hsz, R2, R3⟩ := A2 hW
    have R2 := Lib.hid R2
    have R3 := Lib.hid R3
    clear hW hsz
    obtain ⟨R2c0, R2c1, R2c2, R2c3, R2c4, R2c5, R2c6, R2f0, R2f1, R2f2, R2f3, R2f4, R2f5, R2f6⟩ := row7 R2.out
    obtain ⟨R3c0, R3c1, R3c2, R3c3, R3f0, R3f1, R3f2, R3f3⟩ := row4 R3.out
    go_wp2_with fail
    clear R2c0 R2c1 R2c2 R2c3 R2c4 R2c5 R2c6 R2f0 R2f1 R2f2 R2f3 R2f4 R2f5 R2f6
    clear R3c0 R3c1 R3c2 R3c3 R3f0 R3f1 R3f2 R3f3
    refine (HH.out _ (HE.out.below hB)).mono ?_
    rintro e w1 ⟨rfl, hb⟩
    replace hB := bstep hB hb
    have R3 := Lib.hid (keep hb R3.out)
    clear hb
    obtain ⟨R3c0, R3c1, R3c2, R3c3, R3f0, R3f1, R3f2, R3f3⟩ := row4 R3.out
    go_wp2_with fail
    clear R3c0 R3c1 R3c2 R3c3 R3f0 R3f1 R3f2 R3f3
    refine (HV.out _ (HE.out.below hB)).mono ?_
    rintro e w2 ⟨rfl, hb⟩
    replace hB := bstep hB hb
    have R3 := Lib.hid (keep hb R3.out)
    clear hb
    go_wp2_with fail
    go_ret2
    exact ⟨rfl, hB⟩
  · have hc1 : (cc != 0) = true := by
      rcases HC.out with h | h
      · cases h
      · exact h
    clear HC
    go_enter Tryz.func14, Tryz.ntmps14
    go_upto_region 1 with fail
    generalize hW : (World.alloc w _).alloc _ = W
    obtain ⟨hB, hsz, R2, R3⟩ := A2 hW
    have R2 := Lib.hid R2
    have R3 := Lib.hid R3
    clear hW hsz
    obtain ⟨R2c0, R2c1, R2c2, R2c3, R2c4, R2c5, R2c6, R2f0, R2f1, R2f2, R2f3, R2f4, R2f5, R2f6⟩ := row7 R2.out
    obtain ⟨R3c0, R3c1, R3c2, R3c3, R3f0, R3f1, R3f2, R3f3⟩ := row4 R3.out
    go_wp2_with fail
    clear R2c0 R2c1 R2c2 R2c3 R2c4 R2c5 R2c6 R2f0 R2f1 R2f2 R2f3 R2f4 R2f5 R2f6
    clear R3c0 R3c1 R3c2 R3c3 R3f0 R3f1 R3f2 R3f3
    refine (HH.out _ (HE.out.below hB)).mono ?_
    rintro e w1 ⟨rfl, hb⟩
    replace hB := bstep hB hb
    have R3 := Lib.hid (keep hb R3.out)
    clear hb
    obtain ⟨R3c0, R3c1, R3c2, R3c3, R3f0, R3f1, R3f2, R3f3⟩ := row4 R3.out
    go_wp2_with fail
    clear R3c0 R3c1 R3c2 R3c3 R3f0 R3f1 R3f2 R3f3
    refine (HV.out _ (HE.out.below hB)).mono ?_
    rintro e w2 ⟨rfl, hb⟩
    replace hB := bstep hB hb
    have R3 := Lib.hid (keep hb R3.out)
    clear hb
    go_wp2_with fail
    go_ret2
    exact ⟨rfl, hB⟩


set_option maxRecDepth 100000 in
set_option maxHeartbeats 4000000 in
theorem op_Wet_ok (oi of ot ok : Int) (r0 r1 r2 : ByteArray) (h t lo hi z : ByteArray) (a b : Bool) (w : World) (hE : Env w)
    (hh : ∀ w, Env w → Calls Tryz.prog 18 #[.agg #[.int .i64 oi, .int .i64 of, .int .i64 ot, .int .i64 ok, .string r0, .string r1, .string r2], .agg #[.string h, .string t]] w fun e w' => e = .returned (.tuple #[.string z, .int .i64 0]) ∧ Below w.heap.size w w')
    (hv : ∀ w, Env w → Calls Tryz.prog 49 #[.agg #[.string lo, .string hi]] w fun e w' => e = .returned (.bool true) ∧ Below w.heap.size w w')
    (ha : ∀ w, Env w → Calls Tryz.prog 50 #[.string z, .string lo] w fun e w' => e = .returned (.bool a) ∧ Below w.heap.size w w')
    (hb : ∀ w, Env w → Calls Tryz.prog 50 #[.string z, .string hi] w fun e w' => e = .returned (.bool b) ∧ Below w.heap.size w w') :
    Calls Tryz.prog 14 #[.agg #[.int .i64 oi, .int .i64 of, .int .i64 ot, .int .i64 ok, .string r0, .string r1, .string r2], .agg #[.string h, .string t, .string lo, .string hi]] w fun e w' => e = .returned (.tuple #[.int .i64 (if a = true then (if b = true then 0 else 1) else 2), .int .i64 0]) ∧ Below w.heap.size w w' := by
  have HH := Lib.hid hh
  have HV := Lib.hid hv
  have HA := Lib.hid ha
  have HB := Lib.hid hb
  have HE := Lib.hid hE
  clear hE hh hv ha hb
  cases a
  · skip
    go_enter Tryz.func14, Tryz.ntmps14
    go_upto_region 1 with fail
    generalize hW : (World.alloc w _).alloc _ = W
    obtain ⟨hB, hsz, R2, R3⟩ := A2 hW
    have R2 := Lib.hid R2
    have R3 := Lib.hid R3
    clear hW hsz
    obtain ⟨R2c0, R2c1, R2c2, R2c3, R2c4, R2c5, R2c6, R2f0, R2f1, R2f2, R2f3, R2f4, R2f5, R2f6⟩ := row7 R2.out
    obtain ⟨R3c0, R3c1, R3c2, R3c3, R3f0, R3f1, R3f2, R3f3⟩ := row4 R3.out
    go_wp2_with fail
    clear R2c0 R2c1 R2c2 R2c3 R2c4 R2c5 R2c6 R2f0 R2f1 R2f2 R2f3 R2f4 R2f5 R2f6
    clear R3c0 R3c1 R3c2 R3c3 R3f0 R3f1 R3f2 R3f3
    refine (HH.out _ (HE.out.below hB)).mono ?_
    rintro e w1 ⟨rfl, hb⟩
    replace hB := bstep hB hb
    have R3 := Lib.hid (keep hb R3.out)
    clear hb
    obtain ⟨R3c0, R3c1, R3c2, R3c3, R3f0, R3f1, R3f2, R3f3⟩ := row4 R3.out
    go_wp2_with fail
    clear R3c0 R3c1 R3c2 R3c3 R3f0 R3f1 R3f2 R3f3
    refine (HV.out _ (HE.out.below hB)).mono ?_
    rintro e w2 ⟨rfl, hb⟩
    replace hB := bstep hB hb
    have R3 := Lib.hid (keep hb R3.out)
    clear hb
    obtain ⟨R3c0, R3c1, R3c2, R3c3, R3f0, R3f1, R3f2, R3f3⟩ := row4 R3.out
    go_wp2_with fail
    clear R3c0 R3c1 R3c2 R3c3 R3f0 R3f1 R3f2 R3f3
    refine (HA.out _ (HE.out.below hB)).mono ?_
    rintro e w3 ⟨rfl, hb⟩
    replace hB := bstep hB hb
    clear hb
    go_wp2_with fail
    go_ret2
    exact ⟨rfl, hB⟩
  · cases b
    all_goals
      go_enter Tryz.func14, Tryz.ntmps14
      go_upto_region 1 with fail
      generalize hW : (World.alloc w _).alloc _ = W
      obtain ⟨hB, hsz, R2, R3⟩ := A2 hW
      have R2 := Lib.hid R2
      have R3 := Lib.hid R3
      clear hW hsz
      obtain ⟨R2c0, R2c1, R2c2, R2c3, R2c4, R2c5, R2c6, R2f0, R2f1, R2f2, R2f3, R2f4, R2f5, R2f6⟩ := row7 R2.out
      obtain ⟨R3c0, R3c1, R3c2, R3c3, R3f0, R3f1, R3f2, R3f3⟩ := row4 R3.out
      go_wp2_with fail
      clear R2c0 R2c1 R2c2 R2c3 R2c4 R2c5 R2c6 R2f0 R2f1 R2f2 R2f3 R2f4 R2f5 R2f6
      clear R3c0 R3c1 R3c2 R3c3 R3f0 R3f1 R3f2 R3f3
      refine (HH.out _ (HE.out.below hB)).mono ?_
      rintro e w1 ⟨rfl, hb⟩
      replace hB := bstep hB hb
      have R3 := Lib.hid (keep hb R3.out)
      clear hb
      obtain ⟨R3c0, R3c1, R3c2, R3c3, R3f0, R3f1, R3f2, R3f3⟩ := row4 R3.out
      go_wp2_with fail
      clear R3c0 R3c1 R3c2 R3c3 R3f0 R3f1 R3f2 R3f3
      refine (HV.out _ (HE.out.below hB)).mono ?_
      rintro e w2 ⟨rfl, hb⟩
      replace hB := bstep hB hb
      have R3 := Lib.hid (keep hb R3.out)
      clear hb
      obtain ⟨R3c0, R3c1, R3c2, R3c3, R3f0, R3f1, R3f2, R3f3⟩ := row4 R3.out
      go_wp2_with fail
      clear R3c0 R3c1 R3c2 R3c3 R3f0 R3f1 R3f2 R3f3
      refine (HA.out _ (HE.out.below hB)).mono ?_
      rintro e w3 ⟨rfl, hb⟩
      replace hB := bstep hB hb
      have R3 := Lib.hid (keep hb R3.out)
      clear hb
      obtain ⟨R3c0, R3c1, R3c2, R3c3, R3f0, R3f1, R3f2, R3f3⟩ := row4 R3.out
      go_wp2_with fail
      clear R3c0 R3c1 R3c2 R3c3 R3f0 R3f1 R3f2 R3f3
      refine (HB.out _ (HE.out.below hB)).mono ?_
      rintro e w4 ⟨rfl, hb⟩
      replace hB := bstep hB hb
      clear hb
      go_wp2_with fail
      go_ret2
      exact ⟨rfl, hB⟩

/-- Wet: it may be told; what. -/
noncomputable def wetC (s : ByteArray × ByteArray) (r : ByteArray × ByteArray × ByteArray) (lo hi : ByteArray) : Int := if ivOk lo hi = true then hcode s r else 1
def wetX (x lo hi : Rat) : Int := if decide (0 < cmpQ x lo) = true then (if decide (0 < cmpQ x hi) = true then 0 else 1) else 2
noncomputable def wetR (s : ByteArray × ByteArray) (r : ByteArray × ByteArray × ByteArray) (lo hi : ByteArray) : Int := if (ivOk lo hi && hokB s r) = true then wetX (upX s r) (rvX lo) (rvX hi) else 0
theorem op_WetA (oi of ot ok : Int) (s : ByteArray × ByteArray) (r : ByteArray × ByteArray × ByteArray) (lo hi : ByteArray) (w : World) (hE : Env w) (hs : ShH s r) (h6 : lo.size ≤ 100000) (h7 : hi.size ≤ 100000) :
    Calls Tryz.prog 14 #[.agg #[.int .i64 oi, .int .i64 of, .int .i64 ot, .int .i64 ok, .string r.1, .string r.2.1, .string r.2.2], .agg #[.string s.1, .string s.2, .string lo, .string hi]] w fun e w' => e = .returned (.tuple #[.int .i64 (wetR s r lo hi), .int .i64 (wetC s r lo hi)]) ∧ Below w.heap.size w w' := by
  have hH := fun w hE => op_HeightA oi of ot ok s r w hE hs
  have hV := fun w hE => iv_ValidA lo hi w hE h6 h7
  obtain ⟨h1, h2, h3, h4, h5⟩ := hs
  unfold wetR wetC
  cases hv : ivOk lo hi with
  | false =>
    rw [hv] at hV
    exact op_Wet_err oi of ot ok r.1 r.2.1 r.2.2 s.1 s.2 lo hi _ false _ w hE (.inl rfl) hH hV
  | true =>
    rw [hv] at hV
    cases hk : hokB s r with
    | false =>
      have k := op_Wet_err oi of ot ok r.1 r.2.1 r.2.2 s.1 s.2 lo hi _ true _ w hE (.inr (hcode_ne hk)) hH hV
      rw [if_pos rfl] at k
      exact k
    | true =>
      rw [hk, hcode_yes hk] at hH
      rw [if_pos rfl, if_pos (show (true && true) = true from rfl), hcode_yes hk]
      have hv2 := hv
      unfold ivOk at hv2
      rw [Bool.and_eq_true, Bool.and_eq_true] at hv2
      have z1 : Sz 101 (rvX s.1) := sz_rvX h1 (by decide)
      have z2 : Sz 101 (rvX s.2) := sz_rvX h2 (by decide)
      have zr : SzV 101 (vvX r) := ⟨sz_rvX h3 (by decide), sz_rvX h4 (by decide), sz_rvX h5 (by decide)⟩
      have zU : Sz 5000000 (upX s r) := (szV_turn z1 z2 zr (by decide)).2.2.mono (by decide)
      have A1 := fun w hE => op_above (upX s r) (rvX lo) w hE zU ((sz_rvX h6 (by decide)).mono (by decide))
      have A2 := fun w hE => op_above (upX s r) (rvX hi) w hE zU ((sz_rvX h7 (by decide)).mono (by decide))
      rw [← rat_is hv2.1.1] at A1
      rw [← rat_is hv2.1.2] at A2
      exact op_Wet_ok oi of ot ok r.1 r.2.1 r.2.2 s.1 s.2 lo hi _ _ _ w hE hH hV A1 A2
end Go.Proofs.YthkkdepppjiaeaaGreatDoor

/- The references: garboardref03 Less, Both, Middle; garboardref31 ShortPosition. -/
namespace Go.Proofs.YthkkdepppjiaeaaGreatDoor
open Go.RowKit Go.Shelf Go.Sort

attribute [local go_sem] Oper.semAt_some

set_option maxRecDepth 100000 in
set_option maxHeartbeats 4000000 in
theorem r3_Less (x y : Rat) (p d s t : Sl) (w : World) (hx : RQ w p d x) (hy : RQ w s t y) (zx : Sz 20000000 x) (zy : Sz 20000000 y) :
    Calls Tryz.prog 19 #[qW (sgB x.num) p d, qW (sgB y.num) s t] w fun e w' => e = .returned (.bool (decide (cmpQ x y < 0))) ∧ Below w.heap.size w w' := by
  have H0 := Lib.hid (fun W (hb : Below w.heap.size w W) => r3_Cmp x y p d s t W (hx.below hb) (hy.below hb) zx zy)
  clear hx hy zx zy
  generalize cmpQ x y = z at *
  generalize sgB x.num = b1 at *
  generalize sgB y.num = b2 at *
  go_enter Tryz.func19, Tryz.ntmps19
  go_upto_region 1 with fail
  generalize hW : (World.alloc w _).alloc _ = W
  obtain ⟨hB, hsz, R1, R2⟩ := A2 hW
  have R1 := Lib.hid R1
  have R2 := Lib.hid R2
  clear hW hsz
  obtain ⟨R1c0, R1c1, R1c2, R1f0, R1f1, R1f2⟩ := row3 R1.out
  obtain ⟨R2c0, R2c1, R2c2, R2f0, R2f1, R2f2⟩ := row3 R2.out
  go_wp2_with fail
  clear R1c0 R1c1 R1c2 R1f0 R1f1 R1f2
  clear R2c0 R2c1 R2c2 R2f0 R2f1 R2f2
  refine (H0.out _ hB).mono ?_
  rintro e w1 ⟨rfl, hb⟩
  replace hB := bstep hB hb
  clear hb
  go_wp2_with fail
  go_ret
  exact ⟨rfl, hB⟩

set_option maxHeartbeats 4000000 in
theorem r2_Small1 (w : World) :
    Calls Tryz.prog 96 #[.int .i64 1] w fun e w' => ∃ s : Sl, e = .returned (zW false s) ∧ RN w' s 1 ∧ Below w.heap.size w w' := by
  have HS := Lib.hid (fun W => r1_Small 1 W (by decide))
  have HM := Lib.hid (r2_MakeS (b := false) (n := 1) (z := 1) rfl)
  go_enter Tryz.func96, Tryz.ntmps96
  go_wp2_with fail
  generalize hW : World.alloc w _ = W
  obtain ⟨hB, hsz, R1⟩ := A1 hW
  have R1 := Lib.hid R1
  clear hW hsz
  refine (HS.out _).mono ?_
  rintro e w1 ⟨s, rfl, hs, hb⟩
  have HK := Lib.hid hs
  replace hB := bstep hB hb
  have R1 := Lib.hid (keep hb R1.out)
  clear hb hs
  go_wp2_with fail
  refine (HM.out _ _ HK.out).mono ?_
  rintro e w2 ⟨rfl, hb⟩
  have HK := Lib.hid (HK.out.below hb)
  replace hB := bstep hB hb
  have R1 := Lib.hid (keep hb R1.out)
  clear hb
  obtain ⟨R1c0, R1c1, R1f0, R1f1⟩ := row2 R1.out
  go_wp2_with fail
  exact bodyPost_ret (res_c rfl z_row rfl (store2 R1.out _ _) rfl) rfl ⟨_, rfl, HK.out.store2 R1.out, store2_below hB (by omega) _ _⟩



set_option maxRecDepth 100000 in
set_option maxHeartbeats 4000000 in
theorem r3_Half (w : World) :
    Calls Tryz.prog 70 #[.int .i64 1, .int .i64 2] w fun e w' => ∃ a d : Sl, e = .returned (qW (sgB (mkRat 1 2).num) a d) ∧ RQ w' a d (mkRat 1 2) ∧ Below w.heap.size w w' := by
  have HS := Lib.hid (fun W => r2_Small1 W)
  have HD := Lib.hid (fun W => r1_Small 2 W (by decide))
  have hl := fun s t W (k1 : RN W s 1) (k2 : RN W t 2) => r3_lowest 1 2 s t W k1 k2 (Nat.le_trans (show nl (Int.natAbs 1) ≤ 1 from sz_one.1) (by decide)) (Nat.le_trans (show nl 2 ≤ 1 from sz_two.1) (by decide)) (by decide)
  rw [show sgB 1 = false from rfl] at hl
  have HL := Lib.hid hl
  clear hl
  generalize sgB (mkRat 1 2).num = bq at *
  go_enter Tryz.func70, Tryz.ntmps70
  go_wp2_with fail
  generalize hW : World.alloc w _ = W
  obtain ⟨hB, hsz, R1⟩ := A1 hW
  have R1 := Lib.hid R1
  clear hW hsz
  refine (HS.out _).mono ?_
  rintro e w1 ⟨s, rfl, hs, hb⟩
  replace hB := bstep hB hb
  have R1 := Lib.hid (keep hb R1.out)
  have HK := Lib.hid hs
  clear hs
  clear hb
  go_wp2_with fail
  refine (HD.out _).mono ?_
  rintro e w2 ⟨t, rfl, ht, hb⟩
  replace hB := bstep hB hb
  have R1 := Lib.hid (keep hb R1.out)
  have HK := Lib.hid (HK.out.below hb)
  have HT := Lib.hid ht
  clear ht
  clear hb
  go_wp2_with fail
  refine (HL.out s t w2 HK.out HT.out).mono ?_
  rintro e w3 ⟨a, d, rfl, hq, hb⟩
  replace hB := bstep hB hb
  have R1 := Lib.hid (keep hb R1.out)
  have KQ := Lib.hid hq
  clear hq
  clear hb
  obtain ⟨R1c0, R1c1, R1c2, R1f0, R1f1, R1f2⟩ := row3 R1.out
  go_wp2_with fail
  exact bodyPost_ret (res_c rfl q_row rfl (store3 R1.out _ _ _) rfl) rfl ⟨_, _, rfl, KQ.out.store3 R1.out, store3_below hB (by omega) _ _ _⟩


set_option maxRecDepth 100000 in
set_option maxHeartbeats 4000000 in
theorem r3_Middle (x y : Rat) (p d s t : Sl) (w : World) (hx : RQ w p d x) (hy : RQ w s t y) (zx : Sz 9000000 x) (zy : Sz 9000000 y) :
    Calls Tryz.prog 24 #[qW (sgB x.num) p d, qW (sgB y.num) s t] w fun e w' => ∃ a c : Sl, e = .returned (qW (sgB ((x + y) * mkRat 1 2).num) a c) ∧ RQ w' a c ((x + y) * mkRat 1 2) ∧ Below w.heap.size w w' := by
  have H0 := Lib.hid (fun W (hb : Below w.heap.size w W) => r3_Add x y p d s t W (hx.below hb) (hy.below hb) (zx.mono (by decide)) (zy.mono (by decide)))
  have H1 := Lib.hid r3_Half
  have H2 := Lib.hid (fun W a b e f (k1 : RQ W a b (x + y)) (k2 : RQ W e f (mkRat 1 2)) => r3_Mul (x + y) (mkRat 1 2) a b e f W k1 k2 ((sz_add zx zy).mono (by decide)) (show Sz 40000000 (mkRat 1 2) by constructor <;> decide +kernel))
  clear hx hy zx zy
  generalize (x + y) * mkRat 1 2 = z at *
  generalize x + y = v at *
  generalize mkRat 1 2 = u at *
  generalize sgB z.num = bz at *
  generalize sgB v.num = bv at *
  generalize sgB u.num = bu at *
  generalize sgB x.num = bx at *
  generalize sgB y.num = by_ at *
  go_enter Tryz.func24, Tryz.ntmps24
  go_upto_region 1 with fail
  generalize hW : ((World.alloc w _).alloc _).alloc _ = W
  obtain ⟨hB, hsz, R1, R2, R4⟩ := A3 hW
  have R1 := Lib.hid R1
  have R2 := Lib.hid R2
  have R4 := Lib.hid R4
  clear hW hsz
  obtain ⟨R1c0, R1c1, R1c2, R1f0, R1f1, R1f2⟩ := row3 R1.out
  obtain ⟨R2c0, R2c1, R2c2, R2f0, R2f1, R2f2⟩ := row3 R2.out
  go_wp2_with fail
  clear R1c0 R1c1 R1c2 R1f0 R1f1 R1f2
  clear R2c0 R2c1 R2c2 R2f0 R2f1 R2f2
  refine (H0.out _ hB).mono ?_
  rintro e w1 ⟨a, b, rfl, h0, hb⟩
  replace hB := bstep hB hb
  have R4 := Lib.hid (keep hb R4.out)
  have K0 := Lib.hid h0
  clear h0
  clear hb
  go_wp2_with fail
  refine (H1.out _).mono ?_
  rintro e w2 ⟨e1, f1, rfl, h1, hb⟩
  replace hB := bstep hB hb
  have R4 := Lib.hid (keep hb R4.out)
  have K0 := Lib.hid (K0.out.below hb)
  have K1 := Lib.hid h1
  clear h1
  clear hb
  go_wp2_with fail
  refine (H2.out w2 a b e1 f1 K0.out K1.out).mono ?_
  rintro e w3 ⟨a2, b2, rfl, h2, hb⟩
  replace hB := bstep hB hb
  have R4 := Lib.hid (keep hb R4.out)
  have K2 := Lib.hid h2
  clear h2
  clear hb
  obtain ⟨R4c0, R4c1, R4c2, R4f0, R4f1, R4f2⟩ := row3 R4.out
  go_wp2_with fail
  exact bodyPost_ret (res_c rfl q_row rfl (store3 R4.out _ _ _) rfl) rfl ⟨_, _, rfl, K2.out.store3 R4.out, store3_below hB (by omega) _ _ _⟩

set_option maxHeartbeats 400000 in
theorem pair3a {V Z : World} {g f : Nat} {p0 q0 : Value} {x0 x1 x2 y0 y1 y2 p1 p2 q1 q2 : Value} {t t' : TypeId} (hZ : (((((((V.setCell ⟨g, 0, none⟩ p0).setCell ⟨g, 1, none⟩ p1).setCell ⟨g, 2, none⟩ p2).setCell ⟨f, 0, none⟩ q0).setCell ⟨f, 1, none⟩ q1).setCell ⟨f, 2, none⟩ q2)).drew = Z) (hne : f ≠ g)
    (h4 : V.heap[g]? = some (.cells #[x0, x1, x2] t (0, 0))) (h5 : V.heap[f]? = some (.cells #[y0, y1, y2] t' (0, 0))) :
    Z.heap[g]? = some (.cells #[p0, p1, p2] t (0, 0)) ∧ Z.heap[f]? = some (.cells #[q0, q1, q2] t' (0, 0)) := by
  rw [← hZ]
  have h6 := store3_other hne h5 p0 p1 p2
  have h7 := store3 h6 q0 q1 q2
  have h8 := store3_other (Ne.symm hne) (store3 h4 p0 p1 p2) q0 q1 q2
  exact ⟨drew_row h8, drew_row h7⟩
set_option maxHeartbeats 400000 in
theorem pair3q {V Z : World} {g f : Nat} {x0 y0 p0 q0 : Bool} {x1 x2 y1 y2 p1 p2 q1 q2 : Value} {t t' : TypeId} (hZ : (((((((V.setCell ⟨g, 0, none⟩ (.bool p0)).setCell ⟨g, 1, none⟩ p1).setCell ⟨g, 2, none⟩ p2).setCell ⟨f, 0, none⟩ (.bool q0)).setCell ⟨f, 1, none⟩ q1).setCell ⟨f, 2, none⟩ q2)).drew = Z) (hne : f ≠ g)
    (h4 : V.heap[g]? = some (.cells #[.bool x0, x1, x2] t (0, 0))) (h5 : V.heap[f]? = some (.cells #[.bool y0, y1, y2] t' (0, 0))) {s d : Sl} {a : Rat} (h : RQ V s d a) : RQ Z s d a := by
  rw [← hZ]
  have h6 := store3_other hne h5 (.bool p0) p1 p2
  have k1 := h.store3 h4 (b := p0) (v := p1) (u := p2)
  have k2 := k1.store3 h6 (b := q0) (v := q1) (u := q2)
  exact k2.below (Below.drew (Below.refl _ _))
set_option maxHeartbeats 400000 in
theorem pair3b {V Z w : World} {g f B : Nat} {p0 q0 p1 p2 q1 q2 : Value} (hZ : (((((((V.setCell ⟨g, 0, none⟩ p0).setCell ⟨g, 1, none⟩ p1).setCell ⟨g, 2, none⟩ p2).setCell ⟨f, 0, none⟩ q0).setCell ⟨f, 1, none⟩ q1).setCell ⟨f, 2, none⟩ q2)).drew = Z) (b1 : B ≤ g) (b2 : B ≤ f) (h : Below B w V) : Below B w Z := by
  rw [← hZ]
  exact Below.drew (store3_below (store3_below h b1 _ _ _) b2 _ _ _)
set_option maxRecDepth 100000 in
set_option maxHeartbeats 16000000 in
theorem r3_Both_aux (a b : ByteArray) (x y : Rat) (va vb : Bool) (w : World)
    (h0 : ∀ w, Calls Tryz.prog 15 #[.string a] w fun e w' => ∃ p d : Sl, e = .returned (.tuple #[qW (sgB x.num) p d, .bool va]) ∧ RQ w' p d x ∧ Below w.heap.size w w')
    (h1 : ∀ w, Calls Tryz.prog 15 #[.string b] w fun e w' => ∃ p d : Sl, e = .returned (.tuple #[qW (sgB y.num) p d, .bool vb]) ∧ RQ w' p d y ∧ Below w.heap.size w w') :
    Calls Tryz.prog 17 #[.string a, .string b] w fun e w' => ∃ p d s t : Sl, e = .returned (.tuple #[qW (sgB x.num) p d, qW (sgB y.num) s t, .int .i64 (if (va && vb) = true then 0 else 1)]) ∧ RQ w' p d x ∧ RQ w' s t y ∧ Below w.heap.size w w' := by
  have H0 := Lib.hid h0
  have H1 := Lib.hid h1
  clear h0 h1
  generalize sgB x.num = bx at *
  generalize sgB y.num = by_ at *
  go_enter Tryz.func17, Tryz.ntmps17
  go_wp2_with fail
  generalize hW : (World.alloc w _).alloc _ = W
  obtain ⟨hB, hsz, R4, R5⟩ := A2 hW
  have R4 := Lib.hid R4
  have R5 := Lib.hid R5
  clear hW hsz
  refine (H0.out _).mono ?_
  rintro e w1 ⟨p, d, rfl, k0, hb⟩
  replace hB := bstep hB hb
  have R4 := Lib.hid (keep hb R4.out)
  have R5 := Lib.hid (keep hb R5.out)
  have K0 := Lib.hid k0
  clear k0
  clear hb
  have L51 := Lib.hid (lt_of_row R5.out)
  go_wp2_with fail
  generalize hW : World.alloc _ _ = V
  obtain ⟨hb, hsz, R7⟩ := A1 hW
  replace hB := bstep hB hb
  have R4 := Lib.hid (keep hb R4.out)
  have R5 := Lib.hid (keep hb R5.out)
  have K0 := Lib.hid (K0.out.below hb)
  clear hb
  have R7 := Lib.hid R7
  clear hW hsz
  refine (H1.out _).mono ?_
  rintro e w2 ⟨s, t, rfl, k1, hb⟩
  replace hB := bstep hB hb
  have R4 := Lib.hid (keep hb R4.out)
  have R5 := Lib.hid (keep hb R5.out)
  have R7 := Lib.hid (keep hb R7.out)
  have K0 := Lib.hid (K0.out.below hb)
  have K1 := Lib.hid k1
  clear k1
  clear hb
  have l5 := lt_of_row R5.out
  have l7 := lt_of_row R7.out
  have N0 := L51
  cases va <;> cases vb
  · go_upto_region 4 with fail
    have L72 := Lib.hid (lt_of_row R7.out)
    generalize hW : World.alloc _ _ = U
    obtain ⟨hb, hsz, R9⟩ := A1 hW
    replace hB := bstep hB hb
    have R4 := Lib.hid (keep hb R4.out)
    have R5 := Lib.hid (keep hb R5.out)
    have R7 := Lib.hid (keep hb R7.out)
    have K0 := Lib.hid (K0.out.below hb)
    have K1 := Lib.hid (K1.out.below hb)
    clear hb
    have R9 := Lib.hid R9
    clear hW hsz
    have n1 : ¬ w1.heap.size = w.heap.size := by have := N0.out; omega
    have n2 : ¬ w1.heap.size = w.heap.size + 1 := by have := N0.out; omega
    have n3 : ¬ w2.heap.size = w.heap.size := by have := N0.out; have := L72.out; omega
    have n4 : ¬ w2.heap.size = w.heap.size + 1 := by have := N0.out; have := L72.out; omega
    have n5 : ¬ w.heap.size = w1.heap.size := fun h => n1 h.symm
    have n6 : ¬ w.heap.size + 1 = w1.heap.size := fun h => n2 h.symm
    have n7 : ¬ w.heap.size = w2.heap.size := fun h => n3 h.symm
    have n8 : ¬ w.heap.size + 1 = w2.heap.size := fun h => n4 h.symm
    have HB := Lib.hid hB
    clear hB N0 L72
    obtain ⟨R4c0, R4c1, R4c2, R4f0, R4f1, R4f2⟩ := row3 R4.out
    obtain ⟨R5c0, R5c1, R5c2, R5f0, R5f1, R5f2⟩ := row3 R5.out
    obtain ⟨x0, x1, x2⟩ := rowc3 R7.out
    obtain ⟨y0, y1, y2⟩ := rowc3 R9.out
    go_region
    all_goals
      go_wp2_with fail
      generalize hZ : World.drew _ = Z
      obtain ⟨E4, E5⟩ := pair3a hZ (by omega) R4.out R5.out
      have k0 := pair3q hZ (by omega) R4.out R5.out K0.out
      have k1 := pair3q hZ (by omega) R4.out R5.out K1.out
      have hB := pair3b hZ (Nat.le_refl _) (Nat.le_succ _) HB.out
      clear hZ
      exact bodyPost_ret (res_cct rfl q_row q_row rfl rfl E4 E5 rfl rfl) rfl ⟨_, _, _, _, rfl, k0, k1, hB⟩
  · go_upto_region 4 with fail
    have L72 := Lib.hid (lt_of_row R7.out)
    generalize hW : World.alloc _ _ = U
    obtain ⟨hb, hsz, R9⟩ := A1 hW
    replace hB := bstep hB hb
    have R4 := Lib.hid (keep hb R4.out)
    have R5 := Lib.hid (keep hb R5.out)
    have R7 := Lib.hid (keep hb R7.out)
    have K0 := Lib.hid (K0.out.below hb)
    have K1 := Lib.hid (K1.out.below hb)
    clear hb
    have R9 := Lib.hid R9
    clear hW hsz
    have n1 : ¬ w1.heap.size = w.heap.size := by have := N0.out; omega
    have n2 : ¬ w1.heap.size = w.heap.size + 1 := by have := N0.out; omega
    have n3 : ¬ w2.heap.size = w.heap.size := by have := N0.out; have := L72.out; omega
    have n4 : ¬ w2.heap.size = w.heap.size + 1 := by have := N0.out; have := L72.out; omega
    have n5 : ¬ w.heap.size = w1.heap.size := fun h => n1 h.symm
    have n6 : ¬ w.heap.size + 1 = w1.heap.size := fun h => n2 h.symm
    have n7 : ¬ w.heap.size = w2.heap.size := fun h => n3 h.symm
    have n8 : ¬ w.heap.size + 1 = w2.heap.size := fun h => n4 h.symm
    have HB := Lib.hid hB
    clear hB N0 L72
    obtain ⟨R4c0, R4c1, R4c2, R4f0, R4f1, R4f2⟩ := row3 R4.out
    obtain ⟨R5c0, R5c1, R5c2, R5f0, R5f1, R5f2⟩ := row3 R5.out
    obtain ⟨x0, x1, x2⟩ := rowc3 R7.out
    obtain ⟨y0, y1, y2⟩ := rowc3 R9.out
    go_region
    all_goals
      go_wp2_with fail
      generalize hZ : World.drew _ = Z
      obtain ⟨E4, E5⟩ := pair3a hZ (by omega) R4.out R5.out
      have k0 := pair3q hZ (by omega) R4.out R5.out K0.out
      have k1 := pair3q hZ (by omega) R4.out R5.out K1.out
      have hB := pair3b hZ (Nat.le_refl _) (Nat.le_succ _) HB.out
      clear hZ
      exact bodyPost_ret (res_cct rfl q_row q_row rfl rfl E4 E5 rfl rfl) rfl ⟨_, _, _, _, rfl, k0, k1, hB⟩
  · go_upto_region 4 with fail
    have L72 := Lib.hid (lt_of_row R7.out)
    generalize hW : World.alloc _ _ = U
    obtain ⟨hb, hsz, R9⟩ := A1 hW
    replace hB := bstep hB hb
    have R4 := Lib.hid (keep hb R4.out)
    have R5 := Lib.hid (keep hb R5.out)
    have R7 := Lib.hid (keep hb R7.out)
    have K0 := Lib.hid (K0.out.below hb)
    have K1 := Lib.hid (K1.out.below hb)
    clear hb
    have R9 := Lib.hid R9
    clear hW hsz
    have n1 : ¬ w1.heap.size = w.heap.size := by have := N0.out; omega
    have n2 : ¬ w1.heap.size = w.heap.size + 1 := by have := N0.out; omega
    have n3 : ¬ w2.heap.size = w.heap.size := by have := N0.out; have := L72.out; omega
    have n4 : ¬ w2.heap.size = w.heap.size + 1 := by have := N0.out; have := L72.out; omega
    have n5 : ¬ w.heap.size = w1.heap.size := fun h => n1 h.symm
    have n6 : ¬ w.heap.size + 1 = w1.heap.size := fun h => n2 h.symm
    have n7 : ¬ w.heap.size = w2.heap.size := fun h => n3 h.symm
    have n8 : ¬ w.heap.size + 1 = w2.heap.size := fun h => n4 h.symm
    have HB := Lib.hid hB
    clear hB N0 L72
    obtain ⟨R4c0, R4c1, R4c2, R4f0, R4f1, R4f2⟩ := row3 R4.out
    obtain ⟨R5c0, R5c1, R5c2, R5f0, R5f1, R5f2⟩ := row3 R5.out
    obtain ⟨x0, x1, x2⟩ := rowc3 R7.out
    obtain ⟨y0, y1, y2⟩ := rowc3 R9.out
    go_region
    all_goals
      go_wp2_with fail
      generalize hZ : World.drew _ = Z
      obtain ⟨E4, E5⟩ := pair3a hZ (by omega) R4.out R5.out
      have k0 := pair3q hZ (by omega) R4.out R5.out K0.out
      have k1 := pair3q hZ (by omega) R4.out R5.out K1.out
      have hB := pair3b hZ (Nat.le_refl _) (Nat.le_succ _) HB.out
      clear hZ
      exact bodyPost_ret (res_cct rfl q_row q_row rfl rfl E4 E5 rfl rfl) rfl ⟨_, _, _, _, rfl, k0, k1, hB⟩
  · go_upto_region 5 with fail
    have L72 := Lib.hid (lt_of_row R7.out)
    generalize hW : World.alloc _ _ = U
    obtain ⟨hb, hsz, R9⟩ := A1 hW
    replace hB := bstep hB hb
    have R4 := Lib.hid (keep hb R4.out)
    have R5 := Lib.hid (keep hb R5.out)
    have R7 := Lib.hid (keep hb R7.out)
    have K0 := Lib.hid (K0.out.below hb)
    have K1 := Lib.hid (K1.out.below hb)
    clear hb
    have R9 := Lib.hid R9
    clear hW hsz
    have n1 : ¬ w1.heap.size = w.heap.size := by have := N0.out; omega
    have n2 : ¬ w1.heap.size = w.heap.size + 1 := by have := N0.out; omega
    have n3 : ¬ w2.heap.size = w.heap.size := by have := N0.out; have := L72.out; omega
    have n4 : ¬ w2.heap.size = w.heap.size + 1 := by have := N0.out; have := L72.out; omega
    have n5 : ¬ w.heap.size = w1.heap.size := fun h => n1 h.symm
    have n6 : ¬ w.heap.size + 1 = w1.heap.size := fun h => n2 h.symm
    have n7 : ¬ w.heap.size = w2.heap.size := fun h => n3 h.symm
    have n8 : ¬ w.heap.size + 1 = w2.heap.size := fun h => n4 h.symm
    have HB := Lib.hid hB
    clear hB N0 L72
    obtain ⟨R4c0, R4c1, R4c2, R4f0, R4f1, R4f2⟩ := row3 R4.out
    obtain ⟨R5c0, R5c1, R5c2, R5f0, R5f1, R5f2⟩ := row3 R5.out
    obtain ⟨x0, x1, x2⟩ := rowc3 R7.out
    obtain ⟨y0, y1, y2⟩ := rowc3 R9.out
    go_region
    all_goals
      go_wp2_with fail
      generalize hZ : World.drew _ = Z
      obtain ⟨E4, E5⟩ := pair3a hZ (by omega) R4.out R5.out
      have k0 := pair3q hZ (by omega) R4.out R5.out K0.out
      have k1 := pair3q hZ (by omega) R4.out R5.out K1.out
      have hB := pair3b hZ (Nat.le_refl _) (Nat.le_succ _) HB.out
      clear hZ
      exact bodyPost_ret (res_cct rfl q_row q_row rfl rfl E4 E5 rfl rfl) rfl ⟨_, _, _, _, rfl, k0, k1, hB⟩


set_option maxRecDepth 100000 in
set_option maxHeartbeats 4000000 in
theorem r31_ShortPosition (h t lo hi : ByteArray) (w : World) (h1 : h.size ≤ 9223372036854775807) (h2 : t.size ≤ 9223372036854775807) (h3 : lo.size ≤ 9223372036854775807) (h4 : hi.size ≤ 9223372036854775807) :
    Calls Tryz.prog 12 #[.agg #[.string h, .string t, .string lo, .string hi]] w fun e w' => e = .returned (.bool ((decide (h.size ≤ 40) && decide (t.size ≤ 40)) && (decide (lo.size ≤ 40) && decide (hi.size ≤ 40)))) ∧ Below w.heap.size w w' := by
  have HA := Lib.hid (fun W => r16_ShortA h t W h1 h2)
  have H1 := Lib.hid (fun W => r16_Short lo W h3)
  have H2 := Lib.hid (fun W => r16_Short hi W h4)
  clear h1 h2 h3 h4
  generalize (decide (h.size ≤ 40) && decide (t.size ≤ 40)) = b1 at *
  generalize decide (lo.size ≤ 40) = b2 at *
  generalize decide (hi.size ≤ 40) = b3 at *
  cases b1
  · skip
    go_enter Tryz.func12, Tryz.ntmps12
    go_wp2_with fail
    generalize hW : World.alloc w _ = W
    obtain ⟨hB, hsz, R1⟩ := A1 hW
    have R1 := Lib.hid R1
    clear hW hsz
    obtain ⟨R1c0, R1c1, R1c2, R1c3, R1f0, R1f1, R1f2, R1f3⟩ := row4 R1.out
    go_wp2_with fail
    clear R1c0 R1c1 R1c2 R1c3 R1f0 R1f1 R1f2 R1f3
    refine (HA.out _).mono ?_
    rintro e w1 ⟨rfl, hb⟩
    replace hB := bstep hB hb
    have R1 := Lib.hid (keep hb R1.out)
    clear hb
    go_wp2_with fail
    go_ret
    exact ⟨rfl, hB⟩
  · cases b2
    · skip
      go_enter Tryz.func12, Tryz.ntmps12
      go_wp2_with fail
      generalize hW : World.alloc w _ = W
      obtain ⟨hB, hsz, R1⟩ := A1 hW
      have R1 := Lib.hid R1
      clear hW hsz
      obtain ⟨R1c0, R1c1, R1c2, R1c3, R1f0, R1f1, R1f2, R1f3⟩ := row4 R1.out
      go_wp2_with fail
      clear R1c0 R1c1 R1c2 R1c3 R1f0 R1f1 R1f2 R1f3
      refine (HA.out _).mono ?_
      rintro e w1 ⟨rfl, hb⟩
      replace hB := bstep hB hb
      have R1 := Lib.hid (keep hb R1.out)
      clear hb
      obtain ⟨R1c0, R1c1, R1c2, R1c3, R1f0, R1f1, R1f2, R1f3⟩ := row4 R1.out
      go_wp2_with fail
      clear R1c0 R1c1 R1c2 R1c3 R1f0 R1f1 R1f2 R1f3
      refine (H1.out _).mono ?_
      rintro e w2 ⟨rfl, hb⟩
      replace hB := bstep hB hb
      have R1 := Lib.hid (keep hb R1.out)
      clear hb
      go_wp2_with fail
      go_ret
      exact ⟨rfl, hB⟩
    · skip
      go_enter Tryz.func12, Tryz.ntmps12
      go_wp2_with fail
      generalize hW : World.alloc w _ = W
      obtain ⟨hB, hsz, R1⟩ := A1 hW
      have R1 := Lib.hid R1
      clear hW hsz
      obtain ⟨R1c0, R1c1, R1c2, R1c3, R1f0, R1f1, R1f2, R1f3⟩ := row4 R1.out
      go_wp2_with fail
      clear R1c0 R1c1 R1c2 R1c3 R1f0 R1f1 R1f2 R1f3
      refine (HA.out _).mono ?_
      rintro e w1 ⟨rfl, hb⟩
      replace hB := bstep hB hb
      have R1 := Lib.hid (keep hb R1.out)
      clear hb
      obtain ⟨R1c0, R1c1, R1c2, R1c3, R1f0, R1f1, R1f2, R1f3⟩ := row4 R1.out
      go_wp2_with fail
      clear R1c0 R1c1 R1c2 R1c3 R1f0 R1f1 R1f2 R1f3
      refine (H1.out _).mono ?_
      rintro e w2 ⟨rfl, hb⟩
      replace hB := bstep hB hb
      have R1 := Lib.hid (keep hb R1.out)
      clear hb
      obtain ⟨R1c0, R1c1, R1c2, R1c3, R1f0, R1f1, R1f2, R1f3⟩ := row4 R1.out
      go_wp2_with fail
      clear R1c0 R1c1 R1c2 R1c3 R1f0 R1f1 R1f2 R1f3
      refine (H2.out _).mono ?_
      rintro e w3 ⟨rfl, hb⟩
      replace hB := bstep hB hb
      have R1 := Lib.hid (keep hb R1.out)
      clear hb
      go_wp2_with fail
      go_ret
      exact ⟨rfl, hB⟩

end Go.Proofs.YthkkdepppjiaeaaGreatDoor
