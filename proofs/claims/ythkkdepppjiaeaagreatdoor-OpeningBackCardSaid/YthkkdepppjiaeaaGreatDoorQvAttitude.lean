/- A PART OF THE PROOF, JOINED OUT OF 2 TEXTS. -/
import Derived.Test.YthkkdepppjiaeaaGreatDoorQuAngle
import Derived.Test.YthkkdepppjiaeaaGreatDoorQkRef
import Derived.Test.YthkkdepppjiaeaaGreatDoorQmRef
import Derived.Test.YthkkdepppjiaeaaGreatDoorQlVector
/- Walks of the program's package attitude: Of, point, Turn. -/
namespace Go.Proofs.YthkkdepppjiaeaaGreatDoor
open Go.RowKit Go.Shelf Go.Sort

attribute [local go_sem] Oper.semAt_some

theorem fr_row : RowTy Tryz.prog 129 9 := rowTy_struct Tryz.underlying129 (by kernel_rfl)

set_option maxRecDepth 100000 in
set_option maxHeartbeats 4000000 in
theorem at_Of_err (h t : ByteArray) (cc : Int) (w : World) (hE : Env w)
    (hc1 : (cc != 0) = true)
    (h1 : ∀ w, Env w → Calls Tryz.prog 76 #[.agg #[.string h, .string t]] w fun e w' => e = .returned (.int .i64 cc) ∧ Below w.heap.size w w') :
    Calls Tryz.prog 79 #[.agg #[.string h, .string t]] w fun e w' => e = .returned (.tuple #[.agg #[.string ⟨#[]⟩, .string ⟨#[]⟩, .string ⟨#[]⟩, .string ⟨#[]⟩, .string ⟨#[]⟩, .string ⟨#[]⟩, .string ⟨#[]⟩, .string ⟨#[]⟩, .string ⟨#[]⟩], .int .i64 cc]) ∧ Below w.heap.size w w' := by
  have H1 := Lib.hid h1
  have HE := Lib.hid hE
  clear hE h1
  go_enter Tryz.func79, Tryz.ntmps79
  go_wp2_with fail
  generalize hW : (World.alloc w _).alloc _ = W
  obtain ⟨hB, hsz, R1, R2⟩ := A2 hW
  have R1 := Lib.hid R1
  have R2 := Lib.hid R2
  clear hW hsz
  obtain ⟨c0, c1, f0, f1⟩ := row2 R1.out
  go_wp2_with fail
  clear c0 c1 f0 f1
  refine (H1.out _ (HE.out.below hB)).mono ?_
  rintro e w1 ⟨rfl, hb⟩
  replace hB := bstep hB hb
  have R2 := Lib.hid (keep hb R2.out)
  clear hb
  obtain ⟨g0, g1, g2, g3, g4, g5, g6, g7, g8, g9, g10, g11, g12, g13, g14, g15, g16, g17⟩ := row9 R2.out
  go_wp2_with fail
  exact bodyPost_ret (res_ct rfl fr_row rfl (store9 R2.out _ _ _ _ _ _ _ _ _) rfl) rfl ⟨rfl, store9_below hB (by omega) _ _ _ _ _ _ _ _ _⟩


set_option maxRecDepth 100000 in
set_option maxHeartbeats 4000000 in
theorem at_Of_ok (h t z0 z1 z2 z3 z4 z5 z6 z7 z8 : ByteArray) (w : World) (hE : Env w)
    (h1 : ∀ w, Env w → Calls Tryz.prog 76 #[.agg #[.string h, .string t]] w fun e w' => e = .returned (.int .i64 0) ∧ Below w.heap.size w w')
    (h2 : ∀ w, Env w → Calls Tryz.prog 83 #[.agg #[.string h, .string t]] w fun e w' => e = .returned (.agg #[.string z0, .string z1, .string z2, .string z3, .string z4, .string z5, .string z6, .string z7, .string z8]) ∧ Below w.heap.size w w') :
    Calls Tryz.prog 79 #[.agg #[.string h, .string t]] w fun e w' => e = .returned (.tuple #[.agg #[.string z0, .string z1, .string z2, .string z3, .string z4, .string z5, .string z6, .string z7, .string z8], .int .i64 0]) ∧ Below w.heap.size w w' := by
  have H1 := Lib.hid h1
  have H2 := Lib.hid h2
  have HE := Lib.hid hE
  clear hE h1 h2
  go_enter Tryz.func79, Tryz.ntmps79
  go_wp2_with fail
  generalize hW : (World.alloc w _).alloc _ = W
  obtain ⟨hB, hsz, R1, R2⟩ := A2 hW
  have R1 := Lib.hid R1
  have R2 := Lib.hid R2
  clear hW hsz
  obtain ⟨c0, c1, f0, f1⟩ := row2 R1.out
  go_wp2_with fail
  clear c0 c1 f0 f1
  refine (H1.out _ (HE.out.below hB)).mono ?_
  rintro e w1 ⟨rfl, hb⟩
  replace hB := bstep hB hb
  have R1 := Lib.hid (keep hb R1.out)
  have R2 := Lib.hid (keep hb R2.out)
  clear hb
  obtain ⟨c0, c1, f0, f1⟩ := row2 R1.out
  go_wp2_with fail
  clear c0 c1 f0 f1
  refine (H2.out _ (HE.out.below hB)).mono ?_
  rintro e w2 ⟨rfl, hb⟩
  replace hB := bstep hB hb
  have R2 := Lib.hid (keep hb R2.out)
  clear hb
  go_upto_region 5 with fail
  generalize hW : World.alloc _ _ = V
  obtain ⟨hb, hsz, R5⟩ := A1 hW
  replace hB := bstep hB hb
  have R2 := Lib.hid (keep hb R2.out)
  clear hb
  have R5 := Lib.hid R5
  clear hW hsz
  obtain ⟨k0, k1, k2, k3, k4, k5, k6, k7, k8⟩ := rowc9 R5.out
  obtain ⟨g0, g1, g2, g3, g4, g5, g6, g7, g8, g9, g10, g11, g12, g13, g14, g15, g16, g17⟩ := row9 R2.out
  go_wp2_with fail
  exact bodyPost_ret (res_ct rfl fr_row rfl (store9 R2.out _ _ _ _ _ _ _ _ _) rfl) rfl ⟨rfl, store9_below hB (by omega) _ _ _ _ _ _ _ _ _⟩


set_option maxRecDepth 100000 in
set_option maxHeartbeats 4000000 in
theorem at_point_aux (h t r0 r1 r2 : ByteArray) (n v : Bool) (cc : Int) (w : World) (hE : Env w)
    (h1 : ∀ w, Env w → Calls Tryz.prog 82 #[.agg #[.string h, .string t]] w fun e w' => e = .returned (.bool n) ∧ Below w.heap.size w w')
    (h2 : ∀ w, Env w → Calls Tryz.prog 61 #[.agg #[.string r0, .string r1, .string r2]] w fun e w' => e = .returned (.bool v) ∧ Below w.heap.size w w')
    (h3 : ∀ w, Env w → Calls Tryz.prog 76 #[.agg #[.string h, .string t]] w fun e w' => e = .returned (.int .i64 cc) ∧ Below w.heap.size w w') :
    Calls Tryz.prog 103 #[.agg #[.string h, .string t], .agg #[.string r0, .string r1, .string r2]] w fun e w' => e = .returned (.int .i64 (if (n && v) = true then cc else 1)) ∧ Below w.heap.size w w' := by
  have H1 := Lib.hid h1
  have H2 := Lib.hid h2
  have H3 := Lib.hid h3
  have HE := Lib.hid hE
  clear hE h1 h2 h3
  cases n
  · go_enter Tryz.func103, Tryz.ntmps103
    go_wp2_with fail
    generalize hW : (World.alloc w _).alloc _ = W
    obtain ⟨hB, hsz, R1, R2⟩ := A2 hW
    have R1 := Lib.hid R1
    have R2 := Lib.hid R2
    clear hW hsz
    obtain ⟨c0, c1, f0, f1⟩ := row2 R1.out
    go_wp2_with fail
    clear c0 c1 f0 f1
    refine (H1.out _ (HE.out.below hB)).mono ?_
    rintro e w1 ⟨rfl, hb⟩
    replace hB := bstep hB hb
    clear hb
    go_wp2_with fail
    go_ret
    exact ⟨rfl, hB⟩
  · cases v
    · go_enter Tryz.func103, Tryz.ntmps103
      go_wp2_with fail
      generalize hW : (World.alloc w _).alloc _ = W
      obtain ⟨hB, hsz, R1, R2⟩ := A2 hW
      have R1 := Lib.hid R1
      have R2 := Lib.hid R2
      clear hW hsz
      obtain ⟨c0, c1, f0, f1⟩ := row2 R1.out
      go_wp2_with fail
      clear c0 c1 f0 f1
      refine (H1.out _ (HE.out.below hB)).mono ?_
      rintro e w1 ⟨rfl, hb⟩
      replace hB := bstep hB hb
      have R2 := Lib.hid (keep hb R2.out)
      clear hb
      obtain ⟨R2c0, R2c1, R2c2, R2f0, R2f1, R2f2⟩ := row3 R2.out
      go_wp2_with fail
      clear R2c0 R2c1 R2c2 R2f0 R2f1 R2f2
      refine (H2.out _ (HE.out.below hB)).mono ?_
      rintro e w2 ⟨rfl, hb⟩
      replace hB := bstep hB hb
      clear hb
      go_wp2_with fail
      go_ret
      exact ⟨rfl, hB⟩
    · go_enter Tryz.func103, Tryz.ntmps103
      go_wp2_with fail
      generalize hW : (World.alloc w _).alloc _ = W
      obtain ⟨hB, hsz, R1, R2⟩ := A2 hW
      have R1 := Lib.hid R1
      have R2 := Lib.hid R2
      clear hW hsz
      obtain ⟨c0, c1, f0, f1⟩ := row2 R1.out
      go_wp2_with fail
      clear c0 c1 f0 f1
      refine (H1.out _ (HE.out.below hB)).mono ?_
      rintro e w1 ⟨rfl, hb⟩
      replace hB := bstep hB hb
      have R1 := Lib.hid (keep hb R1.out)
      have R2 := Lib.hid (keep hb R2.out)
      clear hb
      obtain ⟨R2c0, R2c1, R2c2, R2f0, R2f1, R2f2⟩ := row3 R2.out
      go_wp2_with fail
      clear R2c0 R2c1 R2c2 R2f0 R2f1 R2f2
      refine (H2.out _ (HE.out.below hB)).mono ?_
      rintro e w2 ⟨rfl, hb⟩
      replace hB := bstep hB hb
      have R1 := Lib.hid (keep hb R1.out)
      clear hb
      obtain ⟨c0, c1, f0, f1⟩ := row2 R1.out
      go_wp2_with fail
      clear c0 c1 f0 f1
      refine (H3.out _ (HE.out.below hB)).mono ?_
      rintro e w3 ⟨rfl, hb⟩
      replace hB := bstep hB hb
      clear hb
      go_wp2_with fail
      go_ret
      exact ⟨rfl, hB⟩


set_option maxRecDepth 100000 in
set_option maxHeartbeats 4000000 in
theorem at_Turn_err (h t r0 r1 r2 : ByteArray) (cc : Int) (w : World) (hE : Env w)
    (hc1 : (cc != 0) = true)
    (h1 : ∀ w, Env w → Calls Tryz.prog 103 #[.agg #[.string h, .string t], .agg #[.string r0, .string r1, .string r2]] w fun e w' => e = .returned (.int .i64 cc) ∧ Below w.heap.size w w') :
    Calls Tryz.prog 62 #[.agg #[.string h, .string t], .agg #[.string r0, .string r1, .string r2]] w fun e w' => e = .returned (.tuple #[.agg #[.string ⟨#[]⟩, .string ⟨#[]⟩, .string ⟨#[]⟩], .int .i64 cc]) ∧ Below w.heap.size w w' := by
  have H1 := Lib.hid h1
  have HE := Lib.hid hE
  clear hE h1
  go_enter Tryz.func62, Tryz.ntmps62
  go_wp2_with fail
  generalize hW : ((World.alloc w _).alloc _).alloc _ = W
  obtain ⟨hB, hsz, R1, R2, R3⟩ := A3 hW
  have R1 := Lib.hid R1
  have R2 := Lib.hid R2
  have R3 := Lib.hid R3
  clear hW hsz
  obtain ⟨c0, c1, f0, f1⟩ := row2 R1.out
  obtain ⟨R2c0, R2c1, R2c2, R2f0, R2f1, R2f2⟩ := row3 R2.out
  go_wp2_with fail
  clear c0 c1 f0 f1
  clear R2c0 R2c1 R2c2 R2f0 R2f1 R2f2
  refine (H1.out _ (HE.out.below hB)).mono ?_
  rintro e w1 ⟨rfl, hb⟩
  replace hB := bstep hB hb
  have R3 := Lib.hid (keep hb R3.out)
  clear hb
  obtain ⟨R3c0, R3c1, R3c2, R3f0, R3f1, R3f2⟩ := row3 R3.out
  go_wp2_with fail
  exact bodyPost_ret (res_ct rfl vec_row rfl (store3 R3.out _ _ _) rfl) rfl ⟨rfl, store3_below hB (by omega) _ _ _⟩


set_option maxRecDepth 100000 in
set_option maxHeartbeats 4000000 in
theorem at_Turn1_0 (p q : Nat) (z0 z1 z2 z3 z4 z5 z6 z7 z8 r0 r1 r2 d : ByteArray) (w : World) (hE : Env w) (hp : w.heap[p]? = some (.cells #[.string z0, .string z1, .string z2, .string z3, .string z4, .string z5, .string z6, .string z7, .string z8] 78 (0, 0))) (hq : w.heap[q]? = some (.cells #[.string r0, .string r1, .string r2] 24 (0, 0)))
    (h1 : ∀ w, Env w → Calls Tryz.prog 105 #[.agg #[.string z0, .string z1, .string z2], .agg #[.string r0, .string r1, .string r2]] w fun e w' => e = .returned (.tuple #[.string d, .int .i64 0]) ∧ Below w.heap.size w w') :
    Calls Tryz.prog 104 #[.int .i64 0, .pointer (some ⟨p, 0, none⟩), .pointer (some ⟨q, 0, none⟩)] w fun e w' => e = .returned (.string d) ∧ Below w.heap.size w w' := by
  have H1 := Lib.hid h1
  have HE := Lib.hid hE
  have RP := Lib.hid hp
  have RQ := Lib.hid hq
  clear hE h1 hp hq
  go_enter Tryz.func104, Tryz.ntmps104
  go_wp2_with fail
  have c0 : ∀ d os, (grow (redrawn w d) os).cell? ⟨p, 0, none⟩ = some (.string z0) := fun d os => cell_regrown (cell_of_row w _ 0 _ _ _ RP.out) d os
  have c1 : ∀ d os, (grow (redrawn w d) os).cell? ⟨p, 1, none⟩ = some (.string z1) := fun d os => cell_regrown (cell_of_row w _ 1 _ _ _ RP.out) d os
  have c2 : ∀ d os, (grow (redrawn w d) os).cell? ⟨p, 2, none⟩ = some (.string z2) := fun d os => cell_regrown (cell_of_row w _ 2 _ _ _ RP.out) d os
  have e0 : ∀ d os, (grow (redrawn w d) os).cell? ⟨q, 0, none⟩ = some (.string r0) := fun d os => cell_regrown (cell_of_row w _ 0 _ _ _ RQ.out) d os
  have e1 : ∀ d os, (grow (redrawn w d) os).cell? ⟨q, 1, none⟩ = some (.string r1) := fun d os => cell_regrown (cell_of_row w _ 1 _ _ _ RQ.out) d os
  have e2 : ∀ d os, (grow (redrawn w d) os).cell? ⟨q, 2, none⟩ = some (.string r2) := fun d os => cell_regrown (cell_of_row w _ 2 _ _ _ RQ.out) d os
  have S1 := Lib.hid (fun d os => Calls.regrown_of (H1.out (grow (redrawn w d) os) (HE.out.below (below_regrown w d os))))
  clear H1
  refine wp_region_quiet_below (by kernel_rfl) (by kernel_rfl) ?_
  repeat (first | quiet_step (with_reducible exact S1.out _ _))
  refine wpQuiet_nil ?_
  intro _ hw'
  obtain ⟨⟨dq, osq⟩, hw''⟩ := hw'
  subst hw''
  have hb := below_regrown w dq osq
  clear c0 c1 c2 e0 e1 e2 S1
  generalize grow (redrawn w dq) osq = W3 at *
  go_wp2_with fail
  go_ret
  exact ⟨rfl, hb⟩

set_option maxRecDepth 100000 in
set_option maxHeartbeats 4000000 in
theorem at_Turn1_1 (p q : Nat) (z0 z1 z2 z3 z4 z5 z6 z7 z8 r0 r1 r2 d : ByteArray) (w : World) (hE : Env w) (hp : w.heap[p]? = some (.cells #[.string z0, .string z1, .string z2, .string z3, .string z4, .string z5, .string z6, .string z7, .string z8] 78 (0, 0))) (hq : w.heap[q]? = some (.cells #[.string r0, .string r1, .string r2] 24 (0, 0)))
    (h1 : ∀ w, Env w → Calls Tryz.prog 105 #[.agg #[.string z3, .string z4, .string z5], .agg #[.string r0, .string r1, .string r2]] w fun e w' => e = .returned (.tuple #[.string d, .int .i64 0]) ∧ Below w.heap.size w w') :
    Calls Tryz.prog 104 #[.int .i64 1, .pointer (some ⟨p, 0, none⟩), .pointer (some ⟨q, 0, none⟩)] w fun e w' => e = .returned (.string d) ∧ Below w.heap.size w w' := by
  have H1 := Lib.hid h1
  have HE := Lib.hid hE
  have RP := Lib.hid hp
  have RQ := Lib.hid hq
  clear hE h1 hp hq
  go_enter Tryz.func104, Tryz.ntmps104
  go_wp2_with fail
  have c0 : ∀ d os, (grow (redrawn w d) os).cell? ⟨p, 3, none⟩ = some (.string z3) := fun d os => cell_regrown (cell_of_row w _ 3 _ _ _ RP.out) d os
  have c1 : ∀ d os, (grow (redrawn w d) os).cell? ⟨p, 4, none⟩ = some (.string z4) := fun d os => cell_regrown (cell_of_row w _ 4 _ _ _ RP.out) d os
  have c2 : ∀ d os, (grow (redrawn w d) os).cell? ⟨p, 5, none⟩ = some (.string z5) := fun d os => cell_regrown (cell_of_row w _ 5 _ _ _ RP.out) d os
  have e0 : ∀ d os, (grow (redrawn w d) os).cell? ⟨q, 0, none⟩ = some (.string r0) := fun d os => cell_regrown (cell_of_row w _ 0 _ _ _ RQ.out) d os
  have e1 : ∀ d os, (grow (redrawn w d) os).cell? ⟨q, 1, none⟩ = some (.string r1) := fun d os => cell_regrown (cell_of_row w _ 1 _ _ _ RQ.out) d os
  have e2 : ∀ d os, (grow (redrawn w d) os).cell? ⟨q, 2, none⟩ = some (.string r2) := fun d os => cell_regrown (cell_of_row w _ 2 _ _ _ RQ.out) d os
  have S1 := Lib.hid (fun d os => Calls.regrown_of (H1.out (grow (redrawn w d) os) (HE.out.below (below_regrown w d os))))
  clear H1
  refine wp_region_quiet_below (by kernel_rfl) (by kernel_rfl) ?_
  repeat (first | quiet_step (with_reducible exact S1.out _ _))
  refine wpQuiet_nil ?_
  intro _ hw'
  obtain ⟨⟨dq, osq⟩, hw''⟩ := hw'
  subst hw''
  have hb := below_regrown w dq osq
  clear c0 c1 c2 e0 e1 e2 S1
  generalize grow (redrawn w dq) osq = W3 at *
  go_wp2_with fail
  go_ret
  exact ⟨rfl, hb⟩

set_option maxRecDepth 100000 in
set_option maxHeartbeats 4000000 in
theorem at_Turn1_2 (p q : Nat) (z0 z1 z2 z3 z4 z5 z6 z7 z8 r0 r1 r2 d : ByteArray) (w : World) (hE : Env w) (hp : w.heap[p]? = some (.cells #[.string z0, .string z1, .string z2, .string z3, .string z4, .string z5, .string z6, .string z7, .string z8] 78 (0, 0))) (hq : w.heap[q]? = some (.cells #[.string r0, .string r1, .string r2] 24 (0, 0)))
    (h1 : ∀ w, Env w → Calls Tryz.prog 105 #[.agg #[.string z6, .string z7, .string z8], .agg #[.string r0, .string r1, .string r2]] w fun e w' => e = .returned (.tuple #[.string d, .int .i64 0]) ∧ Below w.heap.size w w') :
    Calls Tryz.prog 104 #[.int .i64 2, .pointer (some ⟨p, 0, none⟩), .pointer (some ⟨q, 0, none⟩)] w fun e w' => e = .returned (.string d) ∧ Below w.heap.size w w' := by
  have H1 := Lib.hid h1
  have HE := Lib.hid hE
  have RP := Lib.hid hp
  have RQ := Lib.hid hq
  clear hE h1 hp hq
  go_enter Tryz.func104, Tryz.ntmps104
  go_wp2_with fail
  have c0 : ∀ d os, (grow (redrawn w d) os).cell? ⟨p, 6, none⟩ = some (.string z6) := fun d os => cell_regrown (cell_of_row w _ 6 _ _ _ RP.out) d os
  have c1 : ∀ d os, (grow (redrawn w d) os).cell? ⟨p, 7, none⟩ = some (.string z7) := fun d os => cell_regrown (cell_of_row w _ 7 _ _ _ RP.out) d os
  have c2 : ∀ d os, (grow (redrawn w d) os).cell? ⟨p, 8, none⟩ = some (.string z8) := fun d os => cell_regrown (cell_of_row w _ 8 _ _ _ RP.out) d os
  have e0 : ∀ d os, (grow (redrawn w d) os).cell? ⟨q, 0, none⟩ = some (.string r0) := fun d os => cell_regrown (cell_of_row w _ 0 _ _ _ RQ.out) d os
  have e1 : ∀ d os, (grow (redrawn w d) os).cell? ⟨q, 1, none⟩ = some (.string r1) := fun d os => cell_regrown (cell_of_row w _ 1 _ _ _ RQ.out) d os
  have e2 : ∀ d os, (grow (redrawn w d) os).cell? ⟨q, 2, none⟩ = some (.string r2) := fun d os => cell_regrown (cell_of_row w _ 2 _ _ _ RQ.out) d os
  have S1 := Lib.hid (fun d os => Calls.regrown_of (H1.out (grow (redrawn w d) os) (HE.out.below (below_regrown w d os))))
  clear H1
  refine wp_region_quiet_below (by kernel_rfl) (by kernel_rfl) ?_
  repeat (first | quiet_step (with_reducible exact S1.out _ _))
  refine wpQuiet_nil ?_
  intro _ hw'
  obtain ⟨⟨dq, osq⟩, hw''⟩ := hw'
  subst hw''
  have hb := below_regrown w dq osq
  clear c0 c1 c2 e0 e1 e2 S1
  generalize grow (redrawn w dq) osq = W3 at *
  go_wp2_with fail
  go_ret
  exact ⟨rfl, hb⟩

set_option maxRecDepth 100000 in
set_option maxHeartbeats 4000000 in
theorem at_Turn_ok (h t z0 z1 z2 z3 z4 z5 z6 z7 z8 r0 r1 r2 d0 d1 d2 : ByteArray) (w : World) (hE : Env w)
    (h1 : ∀ w, Env w → Calls Tryz.prog 103 #[.agg #[.string h, .string t], .agg #[.string r0, .string r1, .string r2]] w fun e w' => e = .returned (.int .i64 0) ∧ Below w.heap.size w w')
    (h2 : ∀ w, Env w → Calls Tryz.prog 83 #[.agg #[.string h, .string t]] w fun e w' => e = .returned (.agg #[.string z0, .string z1, .string z2, .string z3, .string z4, .string z5, .string z6, .string z7, .string z8]) ∧ Below w.heap.size w w')
    (h3 : ∀ w, Env w → Calls Tryz.prog 105 #[.agg #[.string z0, .string z1, .string z2], .agg #[.string r0, .string r1, .string r2]] w fun e w' => e = .returned (.tuple #[.string d0, .int .i64 0]) ∧ Below w.heap.size w w')
    (h4 : ∀ w, Env w → Calls Tryz.prog 105 #[.agg #[.string z3, .string z4, .string z5], .agg #[.string r0, .string r1, .string r2]] w fun e w' => e = .returned (.tuple #[.string d1, .int .i64 0]) ∧ Below w.heap.size w w')
    (h5 : ∀ w, Env w → Calls Tryz.prog 105 #[.agg #[.string z6, .string z7, .string z8], .agg #[.string r0, .string r1, .string r2]] w fun e w' => e = .returned (.tuple #[.string d2, .int .i64 0]) ∧ Below w.heap.size w w') :
    Calls Tryz.prog 62 #[.agg #[.string h, .string t], .agg #[.string r0, .string r1, .string r2]] w fun e w' => e = .returned (.tuple #[.agg #[.string d0, .string d1, .string d2], .int .i64 0]) ∧ Below w.heap.size w w' := by
  have H1 := Lib.hid h1
  have H2 := Lib.hid h2
  have G0 := Lib.hid (fun p q W hE hp hq => at_Turn1_0 p q z0 z1 z2 z3 z4 z5 z6 z7 z8 r0 r1 r2 d0 W hE hp hq h3)
  have G1 := Lib.hid (fun p q W hE hp hq => at_Turn1_1 p q z0 z1 z2 z3 z4 z5 z6 z7 z8 r0 r1 r2 d1 W hE hp hq h4)
  have G2 := Lib.hid (fun p q W hE hp hq => at_Turn1_2 p q z0 z1 z2 z3 z4 z5 z6 z7 z8 r0 r1 r2 d2 W hE hp hq h5)
  have eg := enters_of Tryz.func104 (by kernel_rfl) rfl
  have HE := Lib.hid hE
  clear hE h1 h2 h3 h4 h5
  go_enter Tryz.func62, Tryz.ntmps62
  go_wp2_with fail
  generalize hW : ((World.alloc w _).alloc _).alloc _ = W
  obtain ⟨hB, hsz, R1, R2, R3⟩ := A3 hW
  have R1 := Lib.hid R1
  have R2 := Lib.hid R2
  have R3 := Lib.hid R3
  clear hW hsz
  obtain ⟨c0, c1, f0, f1⟩ := row2 R1.out
  obtain ⟨R2c0, R2c1, R2c2, R2f0, R2f1, R2f2⟩ := row3 R2.out
  go_wp2_with fail
  clear c0 c1 f0 f1
  clear R2c0 R2c1 R2c2 R2f0 R2f1 R2f2
  refine (H1.out _ (HE.out.below hB)).mono ?_
  rintro e w1 ⟨rfl, hb⟩
  replace hB := bstep hB hb
  have R1 := Lib.hid (keep hb R1.out)
  have R2 := Lib.hid (keep hb R2.out)
  have R3 := Lib.hid (keep hb R3.out)
  clear hb
  obtain ⟨c0, c1, f0, f1⟩ := row2 R1.out
  go_wp2_with fail
  clear c0 c1 f0 f1
  refine (H2.out _ (HE.out.below hB)).mono ?_
  rintro e w2 ⟨rfl, hb⟩
  replace hB := bstep hB hb
  have R2 := Lib.hid (keep hb R2.out)
  have R3 := Lib.hid (keep hb R3.out)
  clear hb
  go_upto_region 5 with fail
  generalize hW : World.alloc _ _ = V
  obtain ⟨hb, hsz, R5⟩ := A1 hW
  replace hB := bstep hB hb
  have R2 := Lib.hid (keep hb R2.out)
  have R3 := Lib.hid (keep hb R3.out)
  clear hb
  have R5 := Lib.hid R5
  clear hW hsz
  go_wp2_with fail
  refine (G0.out _ _ _ (HE.out.below hB) R5.out R2.out).mono ?_
  rintro e w3 ⟨rfl, hb⟩
  replace hB := bstep hB hb
  have R2 := Lib.hid (keep hb R2.out)
  have R3 := Lib.hid (keep hb R3.out)
  have R5 := Lib.hid (keep hb R5.out)
  clear hb
  go_wp2_with fail
  refine (G1.out _ _ _ (HE.out.below hB) R5.out R2.out).mono ?_
  rintro e w4 ⟨rfl, hb⟩
  replace hB := bstep hB hb
  have R2 := Lib.hid (keep hb R2.out)
  have R3 := Lib.hid (keep hb R3.out)
  have R5 := Lib.hid (keep hb R5.out)
  clear hb
  go_wp2_with fail
  refine (G2.out _ _ _ (HE.out.below hB) R5.out R2.out).mono ?_
  rintro e w5 ⟨rfl, hb⟩
  replace hB := bstep hB hb
  have R3 := Lib.hid (keep hb R3.out)
  clear hb
  obtain ⟨R3c0, R3c1, R3c2, R3f0, R3f1, R3f2⟩ := row3 R3.out
  go_wp2_with fail
  exact bodyPost_ret (res_ct rfl vec_row rfl (store3 R3.out _ _ _) rfl) rfl ⟨rfl, store3_below hB (by omega) _ _ _⟩

end Go.Proofs.YthkkdepppjiaeaaGreatDoor

/- The reference of layer 16: Vec, Dot, ShortA; the laws' dot; attitude.Of and Turn at whatever texts. -/
namespace Go.Proofs.YthkkdepppjiaeaaGreatDoor
open Go.RowKit Go.Shelf Go.Sort

attribute [local go_sem] Oper.semAt_some
theorem v16_row : RowTy Tryz.prog 116 9 := rowTy_struct Tryz.underlying116 (by kernel_rfl)

set_option maxRecDepth 100000 in
set_option maxHeartbeats 16000000 in
theorem r16_Vec (s : ByteArray × ByteArray × ByteArray) (w : World) (hs : Sh6 s) :
    Calls Tryz.prog 73 #[txW s] w fun e w' => ∃ u : VS, e = .returned (.tuple #[vW (sgB (vvX s).x.num) (sgB (vvX s).y.num) (sgB (vvX s).z.num) u, .bool (vvB s)]) ∧ RV w' u (vvX s) ∧ Below w.heap.size w w' := by
  obtain ⟨s0, s1, s2⟩ := s
  have H0 := Lib.hid (fun W => r3_From s0 W hs.1)
  have H1 := Lib.hid (fun W => r3_From s1 W hs.2.1)
  have H2 := Lib.hid (fun W => r3_From s2 W hs.2.2)
  have HF := Lib.hid (fun W p0 d0 p1 d1 p2 d2 (h0 : RQ W p0 d0 (rvX s0)) (h1 : RQ W p1 d1 (rvX s1)) (h2 : RQ W p2 d2 (rvX s2)) => (show RV W ⟨⟨p0, d0⟩, ⟨p1, d1⟩, ⟨p2, d2⟩⟩ (vvX (s0, s1, s2)) from ⟨h0, h1, h2⟩))
  unfold FrP at H0 H1 H2
  unfold vvB txW
  rw [show (vvX (s0, s1, s2)).x = rvX s0 from rfl, show (vvX (s0, s1, s2)).y = rvX s1 from rfl, show (vvX (s0, s1, s2)).z = rvX s2 from rfl]
  simp only
  clear hs
  generalize vvX (s0, s1, s2) = v at *
  generalize rvX s0 = x0 at *
  generalize rvX s1 = x1 at *
  generalize rvX s2 = x2 at *
  generalize sgB x0.num = b0 at *
  generalize sgB x1.num = b1 at *
  generalize sgB x2.num = b2 at *
  generalize rvB s0 = k0 at *
  generalize rvB s1 = k1 at *
  generalize rvB s2 = k2 at *
  go_enter Tryz.func73, Tryz.ntmps73
  go_wp2_with fail
  generalize hW : (World.alloc w _).alloc _ = W
  obtain ⟨hB, hsz, R1, R2⟩ := A2 hW
  have R1 := Lib.hid R1
  have R2 := Lib.hid R2
  clear hW hsz
  refine (H0.out _).mono ?_
  rintro e w1 ⟨p0, d0, rfl, h0, hb⟩
  replace hB := bstep hB hb
  have R1 := Lib.hid (keep hb R1.out)
  have R2 := Lib.hid (keep hb R2.out)
  have K0 := Lib.hid h0
  clear h0
  clear hb
  go_upto_region 2 with fail
  generalize hW : World.alloc _ _ = V
  obtain ⟨hb, hsz, R4⟩ := A1 hW
  replace hB := bstep hB hb
  have R1 := Lib.hid (keep hb R1.out)
  have R2 := Lib.hid (keep hb R2.out)
  have K0 := Lib.hid (K0.out.below hb)
  clear hb
  have R4 := Lib.hid R4
  clear hW hsz
  obtain ⟨R1c0, R1c1, R1c2, R1f0, R1f1, R1f2⟩ := row3 R1.out
  go_wp2_with fail
  clear R1c0 R1c1 R1c2 R1f0 R1f1 R1f2
  refine (H1.out _).mono ?_
  rintro e w2 ⟨p1, d1, rfl, h1, hb⟩
  replace hB := bstep hB hb
  have R1 := Lib.hid (keep hb R1.out)
  have R2 := Lib.hid (keep hb R2.out)
  have R4 := Lib.hid (keep hb R4.out)
  have K0 := Lib.hid (K0.out.below hb)
  have K1 := Lib.hid h1
  clear h1
  clear hb
  go_upto_region 3 with fail
  generalize hW : World.alloc _ _ = V2
  obtain ⟨hb, hsz, R6⟩ := A1 hW
  replace hB := bstep hB hb
  have R1 := Lib.hid (keep hb R1.out)
  have R2 := Lib.hid (keep hb R2.out)
  have R4 := Lib.hid (keep hb R4.out)
  have K0 := Lib.hid (K0.out.below hb)
  have K1 := Lib.hid (K1.out.below hb)
  clear hb
  have R6 := Lib.hid R6
  clear hW hsz
  obtain ⟨R1c0, R1c1, R1c2, R1f0, R1f1, R1f2⟩ := row3 R1.out
  go_wp2_with fail
  clear R1c0 R1c1 R1c2 R1f0 R1f1 R1f2
  refine (H2.out _).mono ?_
  rintro e w3 ⟨p2, d2, rfl, h2, hb⟩
  replace hB := bstep hB hb
  have R2 := Lib.hid (keep hb R2.out)
  have R4 := Lib.hid (keep hb R4.out)
  have R6 := Lib.hid (keep hb R6.out)
  have K0 := Lib.hid (K0.out.below hb)
  have K1 := Lib.hid (K1.out.below hb)
  have K2 := Lib.hid h2
  clear h2
  clear hb
  go_upto_region 4 with fail
  generalize hW : World.alloc _ _ = V3
  obtain ⟨hb, hsz, R8⟩ := A1 hW
  replace hB := bstep hB hb
  have R2 := Lib.hid (keep hb R2.out)
  have R4 := Lib.hid (keep hb R4.out)
  have R6 := Lib.hid (keep hb R6.out)
  have K0 := Lib.hid (K0.out.below hb)
  have K1 := Lib.hid (K1.out.below hb)
  have K2 := Lib.hid (K2.out.below hb)
  clear hb
  have R8 := Lib.hid R8
  clear hW hsz
  obtain ⟨R4c0, R4c1, R4c2, R4f0, R4f1, R4f2⟩ := row3 R4.out
  obtain ⟨R6c0, R6c1, R6c2, R6f0, R6f1, R6f2⟩ := row3 R6.out
  obtain ⟨R8c0, R8c1, R8c2, R8f0, R8f1, R8f2⟩ := row3 R8.out
  obtain ⟨g0, g1, g2, g3, g4, g5, g6, g7, g8, g9, g10, g11, g12, g13, g14, g15, g16, g17⟩ := row9 R2.out
  cases k0 <;> cases k1 <;> cases k2
  all_goals
    go_wp2_with fail
    exact bodyPost_ret (res_ct rfl v16_row rfl (store9 R2.out _ _ _ _ _ _ _ _ _) rfl) rfl ⟨_, rfl, (HF.out _ _ _ _ _ _ _ K0.out K1.out K2.out).store9 R2.out, store9_below hB (by omega) _ _ _ _ _ _ _ _ _⟩



set_option maxRecDepth 100000 in
set_option maxHeartbeats 16000000 in
theorem r16_Dot (a : V3) (b : V3) (sa : VS) (sb : VS) (w : World) (ha : RV w sa a) (hb : RV w sb b) (za : SzV 1000000 a) (zb : SzV 1000000 b) :
    Calls Tryz.prog 109 #[vW (sgB (a).x.num) (sgB (a).y.num) (sgB (a).z.num) sa, vW (sgB (b).x.num) (sgB (b).y.num) (sgB (b).z.num) sb] w fun e w' => ∃ p d : Sl, e = .returned (qW (sgB (dotV a b).num) p d) ∧ RQ w' p d (dotV a b) ∧ Below w.heap.size w w' := by
  unfold dotV
  have H0 := Lib.hid (fun W (hb' : Below w.heap.size w W) => r3_Mul a.x b.x sa.x.p sa.x.d sb.x.p sb.x.d W (ha.x.below hb') (hb.x.below hb') (za.1.mono (by decide)) (zb.1.mono (by decide)))
  have H1 := Lib.hid (fun W (hb' : Below w.heap.size w W) => r3_Mul a.y b.y sa.y.p sa.y.d sb.y.p sb.y.d W (ha.y.below hb') (hb.y.below hb') (za.2.1.mono (by decide)) (zb.2.1.mono (by decide)))
  have H2 := Lib.hid (fun W (hb' : Below w.heap.size w W) (p_0 d_0 : Sl) (k0 : RQ W p_0 d_0 (a.x * b.x)) (p_1 d_1 : Sl) (k1 : RQ W p_1 d_1 (a.y * b.y)) => r3_Add (a.x * b.x) (a.y * b.y) p_0 d_0 p_1 d_1 W k0 k1 ((sz_mul za.1 zb.1).mono (by decide)) ((sz_mul za.2.1 zb.2.1).mono (by decide)))
  have H3 := Lib.hid (fun W (hb' : Below w.heap.size w W) => r3_Mul a.z b.z sa.z.p sa.z.d sb.z.p sb.z.d W (ha.z.below hb') (hb.z.below hb') (za.2.2.mono (by decide)) (zb.2.2.mono (by decide)))
  have H4 := Lib.hid (fun W (hb' : Below w.heap.size w W) (p_2 d_2 : Sl) (k2 : RQ W p_2 d_2 ((a.x * b.x) + (a.y * b.y))) (p_3 d_3 : Sl) (k3 : RQ W p_3 d_3 (a.z * b.z)) => r3_Add ((a.x * b.x) + (a.y * b.y)) (a.z * b.z) p_2 d_2 p_3 d_3 W k2 k3 ((sz_add (sz_mul za.1 zb.1) (sz_mul za.2.1 zb.2.1)).mono (by decide)) ((sz_mul za.2.2 zb.2.2).mono (by decide)))
  clear ha hb za zb
  try generalize a.x * b.x = v_0 at *
  try generalize sgB v_0.num = c_0 at *
  try generalize a.y * b.y = v_1 at *
  try generalize sgB v_1.num = c_1 at *
  try generalize v_0 + v_1 = v_2 at *
  try generalize sgB v_2.num = c_2 at *
  try generalize a.z * b.z = v_3 at *
  try generalize sgB v_3.num = c_3 at *
  try generalize v_2 + v_3 = v_4 at *
  try generalize sgB v_4.num = c_4 at *
  try generalize sgB a.x.num = a0_ at *
  try generalize sgB a.y.num = a1_ at *
  try generalize sgB a.z.num = a2_ at *
  try generalize sgB b.x.num = b0_ at *
  try generalize sgB b.y.num = b1_ at *
  try generalize sgB b.z.num = b2_ at *
  go_enter Tryz.func109, Tryz.ntmps109
  go_upto_region 1 with fail
  generalize hW : ((World.alloc w _).alloc _).alloc _ = W
  obtain ⟨hB, hsz, Ra, Rb, Ro⟩ := A3 hW
  have Ra := Lib.hid Ra
  have Rb := Lib.hid Rb
  have Ro := Lib.hid Ro
  clear hW hsz
  have LRa := fun (w' : World) (h : w'.heap[w.heap.size]? = some (.cells #[.bool a0_, .slice sa.x.p.A sa.x.p.n sa.x.p.c, .slice sa.x.d.A sa.x.d.n sa.x.d.c, .bool a1_, .slice sa.y.p.A sa.y.p.n sa.y.p.c, .slice sa.y.d.A sa.y.d.n sa.y.d.c, .bool a2_, .slice sa.z.p.A sa.z.p.n sa.z.p.c, .slice sa.z.d.A sa.z.d.n sa.z.d.c] 116 (0, 0))) => rowc9 h
  have LRb := fun (w' : World) (h : w'.heap[w.heap.size + 1]? = some (.cells #[.bool b0_, .slice sb.x.p.A sb.x.p.n sb.x.p.c, .slice sb.x.d.A sb.x.d.n sb.x.d.c, .bool b1_, .slice sb.y.p.A sb.y.p.n sb.y.p.c, .slice sb.y.d.A sb.y.d.n sb.y.d.c, .bool b2_, .slice sb.z.p.A sb.z.p.n sb.z.p.c, .slice sb.z.d.A sb.z.d.n sb.z.d.c] 116 (0, 0))) => rowc9 h
  have hB0 := hB.drew
  first
  | go_region_held3 (fun w' => w'.heap[w.heap.size]? = some (.cells #[.bool a0_, .slice sa.x.p.A sa.x.p.n sa.x.p.c, .slice sa.x.d.A sa.x.d.n sa.x.d.c, .bool a1_, .slice sa.y.p.A sa.y.p.n sa.y.p.c, .slice sa.y.d.A sa.y.d.n sa.y.d.c, .bool a2_, .slice sa.z.p.A sa.z.p.n sa.z.p.c, .slice sa.z.d.A sa.z.d.n sa.z.d.c] 116 (0, 0)) ∧ w'.heap[w.heap.size + 1]? = some (.cells #[.bool b0_, .slice sb.x.p.A sb.x.p.n sb.x.p.c, .slice sb.x.d.A sb.x.d.n sb.x.d.c, .bool b1_, .slice sb.y.p.A sb.y.p.n sb.y.p.c, .slice sb.y.d.A sb.y.d.n sb.y.d.c, .bool b2_, .slice sb.z.p.A sb.z.p.n sb.z.p.c, .slice sb.z.d.A sb.z.d.n sb.z.d.c] 116 (0, 0))) (first | with_reducible exact ⟨Ra.out, Rb.out⟩ | with_reducible exact ⟨oldD Ra.out, oldD Rb.out⟩ | with_reducible exact ⟨store3_other (by omega) Ra.out _ _ _, store3_other (by omega) Rb.out _ _ _⟩)
      (first
        | (go_at_call 69; (with_reducible refine (H0.out _ hB0).mono ?_); rintro e wq0 ⟨p_0, d_0, rfl, hk_0, hb⟩; have hB1 := bstep hB0 hb; have Ra := Lib.hid (keep hb Ra.out); have Rb := Lib.hid (keep hb Rb.out); have Ro := Lib.hid (keep hb Ro.out); have Rax := Ra.out; have Rbx := Rb.out; have K0 := Lib.hid hk_0; clear hk_0; clear hb)
        | (go_at_call 69; (with_reducible refine (H1.out _ hB1).mono ?_); rintro e wq1 ⟨p_1, d_1, rfl, hk_1, hb⟩; have hB2 := bstep hB1 hb; have Ra := Lib.hid (keep hb Ra.out); have Rb := Lib.hid (keep hb Rb.out); have Ro := Lib.hid (keep hb Ro.out); have Rax := Ra.out; have Rbx := Rb.out; have K1 := Lib.hid hk_1; clear hk_1; have K0 := Lib.hid (K0.out.below hb); clear hb)
        | (go_at_call 22; (with_reducible refine (H2.out _ hB2 p_0 d_0 K0.out p_1 d_1 K1.out).mono ?_); rintro e wq2 ⟨p_2, d_2, rfl, hk_2, hb⟩; have hB3 := bstep hB2 hb; have Ra := Lib.hid (keep hb Ra.out); have Rb := Lib.hid (keep hb Rb.out); have Ro := Lib.hid (keep hb Ro.out); have Rax := Ra.out; have Rbx := Rb.out; have K2 := Lib.hid hk_2; clear hk_2; have K0 := Lib.hid (K0.out.below hb); have K1 := Lib.hid (K1.out.below hb); clear hb)
        | (go_at_call 69; (with_reducible refine (H3.out _ hB3).mono ?_); rintro e wq3 ⟨p_3, d_3, rfl, hk_3, hb⟩; have hB4 := bstep hB3 hb; have Ra := Lib.hid (keep hb Ra.out); have Rb := Lib.hid (keep hb Rb.out); have Ro := Lib.hid (keep hb Ro.out); have Rax := Ra.out; have Rbx := Rb.out; have K3 := Lib.hid hk_3; clear hk_3; have K0 := Lib.hid (K0.out.below hb); have K1 := Lib.hid (K1.out.below hb); have K2 := Lib.hid (K2.out.below hb); clear hb)
        | (go_at_call 22; (with_reducible refine (H4.out _ hB4 p_2 d_2 K2.out p_3 d_3 K3.out).mono ?_); rintro e wq4 ⟨p_4, d_4, rfl, hk_4, hb⟩; have hB5 := bstep hB4 hb; have Ra := Lib.hid (keep hb Ra.out); have Rb := Lib.hid (keep hb Rb.out); have Ro := Lib.hid (keep hb Ro.out); have Rax := Ra.out; have Rbx := Rb.out; obtain ⟨Rof0, Rof1, Rof2, Rof3, Rof4, Rof5⟩ := row3 Ro.out; have K4 := Lib.hid hk_4; clear hk_4; have K0 := Lib.hid (K0.out.below hb); have K1 := Lib.hid (K1.out.below hb); have K2 := Lib.hid (K2.out.below hb); have K3 := Lib.hid (K3.out.below hb); clear hb))
  | fail
  all_goals
    go_wp2_with fail
    exact bodyPost_ret (res_c rfl q_row rfl (store3 Ro.out _ _ _) rfl) rfl ⟨_, _, rfl, K4.out.store3 Ro.out, store3_below hB5 (by omega) _ _ _⟩

set_option maxRecDepth 100000 in
set_option maxHeartbeats 4000000 in
theorem r16_Short (s : ByteArray) (w : World) (hs : s.size ≤ 9223372036854775807) :
    Calls Tryz.prog 13 #[.string s] w fun e w' => e = .returned (.bool (decide (s.size ≤ 40))) ∧ Below w.heap.size w w' := by
  have hi : (0 : Int) ≤ s.size := by omega
  go_enter Tryz.func13, Tryz.ntmps13
  go_wp2_with fail
  go_ret
  have e : decide ((s.size : Int) ≤ 40) = decide (s.size ≤ 40) := by
    by_cases h : s.size ≤ 40
    · rw [decide_eq_true h, decide_eq_true (by omega)]
    · rw [decide_eq_false h, decide_eq_false (by omega)]
  rw [← e]
  exact ⟨rfl, Below.refl _ _⟩

set_option maxRecDepth 100000 in
set_option maxHeartbeats 4000000 in
theorem r16_ShortA (h t : ByteArray) (w : World) (h1 : h.size ≤ 9223372036854775807) (h2 : t.size ≤ 9223372036854775807) :
    Calls Tryz.prog 25 #[.agg #[.string h, .string t]] w fun e w' => e = .returned (.bool (decide (h.size ≤ 40) && decide (t.size ≤ 40))) ∧ Below w.heap.size w w' := by
  have H1 := Lib.hid (fun W => r16_Short h W h1)
  have H2 := Lib.hid (fun W => r16_Short t W h2)
  clear h1 h2
  generalize decide (h.size ≤ 40) = b1 at *
  generalize decide (t.size ≤ 40) = b2 at *
  cases b1
  · go_enter Tryz.func25, Tryz.ntmps25
    go_wp2_with fail
    generalize hW : World.alloc w _ = W
    obtain ⟨hB, hsz, R1⟩ := A1 hW
    have R1 := Lib.hid R1
    clear hW hsz
    obtain ⟨c0, c1, f0, f1⟩ := row2 R1.out
    go_wp2_with fail
    clear c0 c1 f0 f1
    refine (H1.out _).mono ?_
    rintro e w1 ⟨rfl, hb⟩
    replace hB := bstep hB hb
    clear hb
    go_wp2_with fail
    go_ret
    exact ⟨rfl, hB⟩
  · go_enter Tryz.func25, Tryz.ntmps25
    go_wp2_with fail
    generalize hW : World.alloc w _ = W
    obtain ⟨hB, hsz, R1⟩ := A1 hW
    have R1 := Lib.hid R1
    clear hW hsz
    obtain ⟨c0, c1, f0, f1⟩ := row2 R1.out
    go_wp2_with fail
    clear c0 c1 f0 f1
    refine (H1.out _).mono ?_
    rintro e w1 ⟨rfl, hb⟩
    replace hB := bstep hB hb
    have R1 := Lib.hid (keep hb R1.out)
    clear hb
    obtain ⟨c0, c1, f0, f1⟩ := row2 R1.out
    go_wp2_with fail
    clear c0 c1 f0 f1
    refine (H2.out _).mono ?_
    rintro e w2 ⟨rfl, hb⟩
    replace hB := bstep hB hb
    clear hb
    go_wp2_with fail
    go_ret
    exact ⟨rfl, hB⟩

/-- What Of hands back. -/
def fres (ok : Bool) (p q : Rat) : Value := if ok = true then axW p q else .agg #[.string ⟨#[]⟩, .string ⟨#[]⟩, .string ⟨#[]⟩, .string ⟨#[]⟩, .string ⟨#[]⟩, .string ⟨#[]⟩, .string ⟨#[]⟩, .string ⟨#[]⟩, .string ⟨#[]⟩]

theorem at_texts {s : ByteArray × ByteArray} (h : (rvB s.1 && rvB s.2) = true) : s.1 = rs (rvX s.1) ∧ s.2 = rs (rvX s.2) := by
  rw [Bool.and_eq_true] at h
  obtain ⟨x, hx⟩ := (rvB_iff s.1).1 h.1
  obtain ⟨y, hy⟩ := (rvB_iff s.2).1 h.2
  exact ⟨by rw [hx, rvX_rs], by rw [hy, rvX_rs]⟩
theorem acode_ne {v r : Bool} (h : (v && r) = false) : (acode v r != 0) = true := by
  unfold acode
  cases v <;> cases r <;> first | rfl | simp at h
theorem at_OfA (s : ByteArray × ByteArray) (w : World) (hE : Env w) (h1 : s.1.size ≤ 40) (h2 : s.2.size ≤ 40) :
    Calls Tryz.prog 79 #[.agg #[.string s.1, .string s.2]] w fun e w' => e = .returned (.tuple #[fres ((rvB s.1 && rvB s.2) && inR (rvX s.1) (rvX s.2)) (rvX s.1) (rvX s.2), .int .i64 (acode (rvB s.1 && rvB s.2) (inR (rvX s.1) (rvX s.2)))]) ∧ Below w.heap.size w w' := by
  have hC := fun w hE => at_Check s w hE (Nat.le_trans h1 (by decide)) (Nat.le_trans h2 (by decide))
  cases hk : ((rvB s.1 && rvB s.2) && inR (rvX s.1) (rvX s.2)) with
  | false => exact at_Of_err _ _ _ w hE (acode_ne hk) hC
  | true =>
    have hk' := hk
    rw [Bool.and_eq_true] at hk
    obtain ⟨e1, e2⟩ := at_texts hk.1
    have z1 : Sz 41 (rvX s.1) := sz_rvX h1 (by decide)
    have z2 : Sz 41 (rvX s.2) := sz_rvX h2 (by decide)
    have ec : acode (rvB s.1 && rvB s.2) (inR (rvX s.1) (rvX s.2)) = 0 := by rw [hk.1, hk.2]; rfl
    rw [ec] at hC ⊢
    have hA := fun w hE => at_axes (rvX s.1) (rvX s.2) w hE (z1.mono (by decide)) (z2.mono (by decide)) hk.2
    rw [← e1, ← e2] at hA
    exact at_Of_ok _ _ _ _ _ _ _ _ _ _ _ w hE hC hA
end Go.Proofs.YthkkdepppjiaeaaGreatDoor
