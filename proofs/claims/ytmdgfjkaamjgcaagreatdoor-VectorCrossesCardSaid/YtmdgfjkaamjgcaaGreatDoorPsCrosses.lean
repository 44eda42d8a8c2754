/- A PART OF THE PROOF, JOINED OUT OF 5 TEXTS. -/
import Derived.Test.YtmdgfjkaamjgcaaGreatDoorPrThrough
import Derived.Test.YtmdgfjkaamjgcaaGreatDoorPoLaw
/- Walks of the program's package interval: less, Valid, Has; and the closure of VectorCrosses. -/
namespace Go.Proofs.YtmdgfjkaamjgcaaGreatDoor
open Go.RowKit Go.Shelf Go.Sort

attribute [local go_sem] Oper.semAt_some

theorem iv_less (x y : Rat) (w : World) (hE : Env w) (hx : Sz 5000000 x) (hy : Sz 5000000 y) :
    Calls Tryz.prog 85 #[.string (rs x), .string (rs y)] w fun e w' => e = .returned (.bool (decide (cmpQ x y < 0))) ∧ Below w.heap.size w w' := by
  have HA := Lib.hid (ra_Compare x y w hE hx hy)
  clear hE hx hy
  generalize cmpQ x y = z at *
  go_enter Tryz.func85, Tryz.ntmps85
  go_wp2_with fail
  refine HA.out.mono ?_
  rintro e w1 ⟨rfl, hB⟩
  go_wp2_with fail
  go_ret
  exact ⟨rfl, hB⟩

set_option maxRecDepth 100000 in
set_option maxHeartbeats 2000000 in
theorem iv_Valid (x y : Rat) (w : World) (hE : Env w) (hx : Sz 5000000 x) (hy : Sz 5000000 y) :
    Calls Tryz.prog 84 #[.agg #[.string (rs x), .string (rs y)]] w fun e w' => e = .returned (.bool (decide (cmpQ x y ≤ 0))) ∧ Below w.heap.size w w' := by
  have HA := Lib.hid (fun w hE => ra_Compare x y w hE hx hy)
  have HE := Lib.hid hE
  clear hE hx hy
  generalize cmpQ x y = z at *
  go_enter Tryz.func84, Tryz.ntmps84
  go_wp2_with fail
  generalize hW : World.alloc w _ = W
  obtain ⟨hB, hsz, R1⟩ := A1 hW
  have R1 := Lib.hid R1
  clear hW hsz
  obtain ⟨R1c0, R1c1, R1f0, R1f1⟩ := row2 R1.out
  go_wp2_with fail
  clear R1c0 R1c1 R1f0 R1f1
  refine (HA.out _ (HE.out.below hB)).mono ?_
  rintro e w1 ⟨rfl, hb⟩
  replace hB := bstep hB hb
  clear hb
  go_wp2_with fail
  go_ret
  exact ⟨rfl, hB⟩

set_option maxRecDepth 100000 in
set_option maxHeartbeats 4000000 in
theorem iv_Has_aux (a b x : ByteArray) (v l m : Bool) (w : World) (hE : Env w)
    (h1 : ∀ w, Env w → Calls Tryz.prog 84 #[.agg #[.string a, .string b]] w fun e w' => e = .returned (.bool v) ∧ Below w.heap.size w w')
    (h2 : ∀ w, Env w → Calls Tryz.prog 34 #[.string x] w fun e w' => e = .returned (.bool true) ∧ Below w.heap.size w w')
    (h3 : ∀ w, Env w → Calls Tryz.prog 85 #[.string x, .string a] w fun e w' => e = .returned (.bool l) ∧ Below w.heap.size w w')
    (h4 : ∀ w, Env w → Calls Tryz.prog 85 #[.string b, .string x] w fun e w' => e = .returned (.bool m) ∧ Below w.heap.size w w') :
    Calls Tryz.prog 42 #[.agg #[.string a, .string b], .string x] w fun e w' => e = .returned (.bool (v && !l && !m)) ∧ Below w.heap.size w w' := by
  have H1 := Lib.hid h1
  have H2 := Lib.hid h2
  have H3 := Lib.hid h3
  have H4 := Lib.hid h4
  have HE := Lib.hid hE
  clear hE h1 h2 h3 h4
  cases v <;> cases l <;> cases m
  all_goals
    go_enter Tryz.func42, Tryz.ntmps42
    go_wp2_with fail
    generalize hW : World.alloc w _ = W
    obtain ⟨hB, hsz, R1⟩ := A1 hW
    have R1 := Lib.hid R1
    clear hW hsz
    obtain ⟨R1c0, R1c1, R1f0, R1f1⟩ := row2 R1.out
    go_wp2_with fail
    clear R1c0 R1c1 R1f0 R1f1
    refine (H1.out _ (HE.out.below hB)).mono ?_
    rintro e w1 ⟨rfl, hb⟩
    replace hB := bstep hB hb
    have R1 := Lib.hid (keep hb R1.out)
    clear hb
    go_wp2_with fail
    first
    | (go_ret
       exact ⟨rfl, hB⟩)
    | skip
  all_goals
    refine (H2.out _ (HE.out.below hB)).mono ?_
    rintro e w2 ⟨rfl, hb⟩
    replace hB := bstep hB hb
    have R1 := Lib.hid (keep hb R1.out)
    clear hb
    obtain ⟨R1c0, R1c1, R1f0, R1f1⟩ := row2 R1.out
    go_wp2_with fail
    clear R1c0 R1c1 R1f0 R1f1
    refine (H3.out _ (HE.out.below hB)).mono ?_
    rintro e w3 ⟨rfl, hb⟩
    replace hB := bstep hB hb
    have R1 := Lib.hid (keep hb R1.out)
    clear hb
    obtain ⟨R1c0, R1c1, R1f0, R1f1⟩ := row2 R1.out
    go_wp2_with fail
    clear R1c0 R1c1 R1f0 R1f1
    first
    | (go_ret
       exact ⟨rfl, hB⟩)
    | skip
  all_goals
    refine (H4.out _ (HE.out.below hB)).mono ?_
    rintro e w4 ⟨rfl, hb⟩
    replace hB := bstep hB hb
    go_wp2_with fail
    go_ret
    exact ⟨rfl, hB⟩

def hasQ (x y z : Rat) : Bool := decide (cmpQ x y ≤ 0) && !decide (cmpQ z x < 0) && !decide (cmpQ y z < 0)
theorem iv_Has (x y z : Rat) (w : World) (hE : Env w) (hx : Sz 4000000 x) (hy : Sz 4000000 y) (hz : Sz 4000000 z) :
    Calls Tryz.prog 42 #[.agg #[.string (rs x), .string (rs y)], .string (rs z)] w fun e w' => e = .returned (.bool (hasQ x y z)) ∧ Below w.heap.size w w' :=
  iv_Has_aux _ _ _ _ _ _ w hE (fun w hE => iv_Valid x y w hE (hx.mono (by decide)) (hy.mono (by decide)))
    (fun w hE => by have h := ra_Valid (rs z) w hE (by have := rs_size z; have := hz.1; have := hz.2; omega); rwa [rvB_rs] at h)
    (fun w hE => iv_less z x w hE (hz.mono (by decide)) (hx.mono (by decide))) (fun w hE => iv_less y z w hE (hy.mono (by decide)) (hz.mono (by decide)))

set_option maxRecDepth 100000 in
set_option maxHeartbeats 4000000 in
theorem la_in_aux (a b x : ByteArray) (p q : Bool) (w : World) (hE : Env w)
    (h1 : ∀ w, Env w → Calls Tryz.prog 42 #[.agg #[.string a, .string b], .string x] w fun e w' => e = .returned (.bool p) ∧ Below w.heap.size w w')
    (h2 : ∀ w, Env w → Calls Tryz.prog 42 #[.agg #[.string b, .string a], .string x] w fun e w' => e = .returned (.bool q) ∧ Below w.heap.size w w') :
    Calls Tryz.prog 41 #[.string a, .string b, .string x] w fun e w' => e = .returned (.bool (p || q)) ∧ Below w.heap.size w w' := by
  have H1 := Lib.hid h1
  have H2 := Lib.hid h2
  have HE := Lib.hid hE
  clear hE h1 h2
  cases p
  · go_enter Tryz.func41, Tryz.ntmps41
    go_wp2_with fail
    refine (H1.out _ HE.out).mono ?_
    rintro e w1 ⟨rfl, hB⟩
    go_wp2_with fail
    refine (H2.out _ (HE.out.below hB)).mono ?_
    rintro e w2 ⟨rfl, hb⟩
    replace hB := bstep hB hb
    go_wp2_with fail
    go_ret
    exact ⟨by cases q <;> rfl, hB⟩
  · go_enter Tryz.func41, Tryz.ntmps41
    go_wp2_with fail
    refine (H1.out _ HE.out).mono ?_
    rintro e w1 ⟨rfl, hB⟩
    go_wp2_with fail
    go_ret
    exact ⟨rfl, hB⟩
end Go.Proofs.YtmdgfjkaamjgcaaGreatDoor

/- Walks of the program's package vector: Crossing, where it fails. -/
namespace Go.Proofs.YtmdgfjkaamjgcaaGreatDoor
open Go.RowKit Go.Shelf Go.Sort

attribute [local go_sem] Oper.semAt_some

set_option maxRecDepth 100000 in
set_option maxHeartbeats 8000000 in
theorem ve_Crossing_bad1 (n0 n1 n2 c a0 a1 a2 b0 b1 b2 : ByteArray) (w : World) (hE : Env w)
    (h1 : ∀ w, Env w → Calls Tryz.prog 66 #[.agg #[.string n0, .string n1, .string n2, .string c]] w fun e w' => e = .returned (.int .i64 1) ∧ Below w.heap.size w w') :
    Calls Tryz.prog 30 #[.agg #[.string n0, .string n1, .string n2, .string c], .agg #[.string a0, .string a1, .string a2], .agg #[.string b0, .string b1, .string b2]] w fun e w' => e = .returned (.tuple #[.agg #[.string ⟨#[]⟩, .string ⟨#[]⟩, .string ⟨#[]⟩], .int .i64 1]) ∧ Below w.heap.size w w' := by
  have H1 := Lib.hid h1
  have HE := Lib.hid hE
  clear hE h1
  go_enter Tryz.func30, Tryz.ntmps30
  go_wp2_with fail
  generalize hW : (((World.alloc w _).alloc _).alloc _).alloc _ = W
  obtain ⟨hB, hsz, R3, R4, R5, R6⟩ := A4 hW
  have R3 := Lib.hid R3
  have R4 := Lib.hid R4
  have R5 := Lib.hid R5
  have R6 := Lib.hid R6
  clear hW hsz
  refine (H1.out _ (HE.out.below hB)).mono ?_
  rintro e w1 ⟨rfl, hb⟩
  replace hB := bstep hB hb
  have R3 := Lib.hid (keep hb R3.out)
  have R4 := Lib.hid (keep hb R4.out)
  have R5 := Lib.hid (keep hb R5.out)
  have R6 := Lib.hid (keep hb R6.out)
  clear hb
  obtain ⟨R6c0, R6c1, R6c2, R6f0, R6f1, R6f2⟩ := row3 R6.out
  go_wp2_with fail
  exact bodyPost_ret (res_ct rfl vec_row rfl (store3 R6.out _ _ _) rfl) rfl ⟨rfl, store3_below hB (by omega) _ _ _⟩

set_option maxRecDepth 100000 in
set_option maxHeartbeats 8000000 in
theorem ve_Crossing_bad2 (n0 n1 n2 c a0 a1 a2 b0 b1 b2 : ByteArray) (w : World) (hE : Env w) (ha : ShV (a0, a1, a2)) (hb : ShV (b0, b1, b2)) (h0 : chk2 (a0, a1, a2) (b0, b1, b2) = 1)
    (h1 : ∀ w, Env w → Calls Tryz.prog 66 #[.agg #[.string n0, .string n1, .string n2, .string c]] w fun e w' => e = .returned (.int .i64 0) ∧ Below w.heap.size w w') :
    Calls Tryz.prog 30 #[.agg #[.string n0, .string n1, .string n2, .string c], .agg #[.string a0, .string a1, .string a2], .agg #[.string b0, .string b1, .string b2]] w fun e w' => e = .returned (.tuple #[.agg #[.string ⟨#[]⟩, .string ⟨#[]⟩, .string ⟨#[]⟩], .int .i64 1]) ∧ Below w.heap.size w w' := by
  have HC := Lib.hid (fun N t W hE h => ve_check2 (N := N) (t := t) ha hb W hE h)
  rw [h0] at HC
  have H1 := Lib.hid h1
  have HE := Lib.hid hE
  clear hE h1 h0 ha hb
  go_enter Tryz.func30, Tryz.ntmps30
  go_wp2_with fail
  generalize hW : (((World.alloc w _).alloc _).alloc _).alloc _ = W
  obtain ⟨hB, hsz, R3, R4, R5, R6⟩ := A4 hW
  have R3 := Lib.hid R3
  have R4 := Lib.hid R4
  have R5 := Lib.hid R5
  have R6 := Lib.hid R6
  clear hW hsz
  refine (H1.out _ (HE.out.below hB)).mono ?_
  rintro e w1 ⟨rfl, hb⟩
  replace hB := bstep hB hb
  have R3 := Lib.hid (keep hb R3.out)
  have R4 := Lib.hid (keep hb R4.out)
  have R5 := Lib.hid (keep hb R5.out)
  have R6 := Lib.hid (keep hb R6.out)
  clear hb
  obtain ⟨R4c0, R4c1, R4c2, R4f0, R4f1, R4f2⟩ := row3 R4.out
  obtain ⟨R5c0, R5c1, R5c2, R5f0, R5f1, R5f2⟩ := row3 R5.out
  go_wp2_with fail
  clear R4c0 R4c1 R4c2 R4f0 R4f1 R4f2
  clear R5c0 R5c1 R5c2 R5f0 R5f1 R5f2
  generalize hW : World.alloc _ _ = V
  obtain ⟨hb, hsz, RS⟩ := A1 hW
  replace hB := bstep hB hb
  have R3 := Lib.hid (keep hb R3.out)
  have R4 := Lib.hid (keep hb R4.out)
  have R5 := Lib.hid (keep hb R5.out)
  have R6 := Lib.hid (keep hb R6.out)
  clear hb
  have RS := Lib.hid RS
  clear hW hsz
  refine (HC.out _ _ _ (HE.out.below hB) RS.out).mono ?_
  rintro e w2 ⟨rfl, hb⟩
  replace hB := bstep hB hb
  have R6 := Lib.hid (keep hb R6.out)
  clear hb RS
  obtain ⟨R6c0, R6c1, R6c2, R6f0, R6f1, R6f2⟩ := row3 R6.out
  go_wp2_with fail
  exact bodyPost_ret (res_ct rfl vec_row rfl (store3 R6.out _ _ _) rfl) rfl ⟨rfl, store3_below hB (by omega) _ _ _⟩

set_option maxRecDepth 100000 in
set_option maxHeartbeats 8000000 in
theorem ve_Crossing_same (n0 n1 n2 c a0 a1 a2 b0 b1 b2 hx hy : ByteArray) (sx sy : Int) (w : World) (hE : Env w) (ha : ShV (a0, a1, a2)) (hb : ShV (b0, b1, b2)) (h0 : chk2 (a0, a1, a2) (b0, b1, b2) = 0) (hs : ((decide (0 < sx)) == (decide (0 < sy))) = true)
    (h1 : ∀ w, Env w → Calls Tryz.prog 66 #[.agg #[.string n0, .string n1, .string n2, .string c]] w fun e w' => e = .returned (.int .i64 0) ∧ Below w.heap.size w w')
    (h2 : ∀ w, Env w → Calls Tryz.prog 68 #[.agg #[.string n0, .string n1, .string n2, .string c], .agg #[.string a0, .string a1, .string a2]] w fun e w' => e = .returned (.string hx) ∧ Below w.heap.size w w')
    (h3 : ∀ w, Env w → Calls Tryz.prog 68 #[.agg #[.string n0, .string n1, .string n2, .string c], .agg #[.string b0, .string b1, .string b2]] w fun e w' => e = .returned (.string hy) ∧ Below w.heap.size w w')
    (h4 : ∀ w, Env w → Calls Tryz.prog 67 #[.string hx] w fun e w' => e = .returned (.int .i64 sx) ∧ Below w.heap.size w w')
    (h5 : ∀ w, Env w → Calls Tryz.prog 67 #[.string hy] w fun e w' => e = .returned (.int .i64 sy) ∧ Below w.heap.size w w') :
    Calls Tryz.prog 30 #[.agg #[.string n0, .string n1, .string n2, .string c], .agg #[.string a0, .string a1, .string a2], .agg #[.string b0, .string b1, .string b2]] w fun e w' => e = .returned (.tuple #[.agg #[.string ⟨#[]⟩, .string ⟨#[]⟩, .string ⟨#[]⟩], .int .i64 11]) ∧ Below w.heap.size w w' := by
  have HC := Lib.hid (fun N t W hE h => ve_check2 (N := N) (t := t) ha hb W hE h)
  rw [h0] at HC
  have H1 := Lib.hid h1
  have H2 := Lib.hid h2
  have H3 := Lib.hid h3
  have H4 := Lib.hid h4
  have H5 := Lib.hid h5
  have HE := Lib.hid hE
  clear hE h1 h2 h3 h4 h5 h0 ha hb
  go_enter Tryz.func30, Tryz.ntmps30
  go_wp2_with fail
  generalize hW : (((World.alloc w _).alloc _).alloc _).alloc _ = W
  obtain ⟨hB, hsz, R3, R4, R5, R6⟩ := A4 hW
  have R3 := Lib.hid R3
  have R4 := Lib.hid R4
  have R5 := Lib.hid R5
  have R6 := Lib.hid R6
  clear hW hsz
  refine (H1.out _ (HE.out.below hB)).mono ?_
  rintro e w1 ⟨rfl, hb⟩
  replace hB := bstep hB hb
  have R3 := Lib.hid (keep hb R3.out)
  have R4 := Lib.hid (keep hb R4.out)
  have R5 := Lib.hid (keep hb R5.out)
  have R6 := Lib.hid (keep hb R6.out)
  clear hb
  obtain ⟨R4c0, R4c1, R4c2, R4f0, R4f1, R4f2⟩ := row3 R4.out
  obtain ⟨R5c0, R5c1, R5c2, R5f0, R5f1, R5f2⟩ := row3 R5.out
  go_wp2_with fail
  clear R4c0 R4c1 R4c2 R4f0 R4f1 R4f2
  clear R5c0 R5c1 R5c2 R5f0 R5f1 R5f2
  generalize hW : World.alloc _ _ = V
  obtain ⟨hb, hsz, RS⟩ := A1 hW
  replace hB := bstep hB hb
  have R3 := Lib.hid (keep hb R3.out)
  have R4 := Lib.hid (keep hb R4.out)
  have R5 := Lib.hid (keep hb R5.out)
  have R6 := Lib.hid (keep hb R6.out)
  clear hb
  have RS := Lib.hid RS
  clear hW hsz
  refine (HC.out _ _ _ (HE.out.below hB) RS.out).mono ?_
  rintro e w2 ⟨rfl, hb⟩
  replace hB := bstep hB hb
  have R3 := Lib.hid (keep hb R3.out)
  have R4 := Lib.hid (keep hb R4.out)
  have R5 := Lib.hid (keep hb R5.out)
  have R6 := Lib.hid (keep hb R6.out)
  clear hb RS
  go_wp2_with fail
  have e0 : ∀ d os, (grow (redrawn w2 d) os).cell? ⟨w.heap.size, 0, none⟩ = some (.string n0) := fun d os => cell_regrown (row4 R3.out).1 d os
  have e1 : ∀ d os, (grow (redrawn w2 d) os).cell? ⟨w.heap.size, 1, none⟩ = some (.string n1) := fun d os => cell_regrown (row4 R3.out).2.1 d os
  have e2 : ∀ d os, (grow (redrawn w2 d) os).cell? ⟨w.heap.size, 2, none⟩ = some (.string n2) := fun d os => cell_regrown (row4 R3.out).2.2.1 d os
  have e3 : ∀ d os, (grow (redrawn w2 d) os).cell? ⟨w.heap.size, 3, none⟩ = some (.string c) := fun d os => cell_regrown (row4 R3.out).2.2.2.1 d os
  have e4 : ∀ d os, (grow (redrawn w2 d) os).cell? ⟨w.heap.size + 1, 0, none⟩ = some (.string a0) := fun d os => cell_regrown (row3 R4.out).1 d os
  have e5 : ∀ d os, (grow (redrawn w2 d) os).cell? ⟨w.heap.size + 1, 1, none⟩ = some (.string a1) := fun d os => cell_regrown (row3 R4.out).2.1 d os
  have e6 : ∀ d os, (grow (redrawn w2 d) os).cell? ⟨w.heap.size + 1, 2, none⟩ = some (.string a2) := fun d os => cell_regrown (row3 R4.out).2.2.1 d os
  have e7 : ∀ d os, (grow (redrawn w2 d) os).cell? ⟨w.heap.size + 2, 0, none⟩ = some (.string b0) := fun d os => cell_regrown (row3 R5.out).1 d os
  have e8 : ∀ d os, (grow (redrawn w2 d) os).cell? ⟨w.heap.size + 2, 1, none⟩ = some (.string b1) := fun d os => cell_regrown (row3 R5.out).2.1 d os
  have e9 : ∀ d os, (grow (redrawn w2 d) os).cell? ⟨w.heap.size + 2, 2, none⟩ = some (.string b2) := fun d os => cell_regrown (row3 R5.out).2.2.1 d os
  have hE := HE.out.below hB
  have S1 := Lib.hid (fun d os => Calls.regrown_of (H2.out (grow (redrawn w2 d) os) (hE.below (below_regrown w2 d os))))
  have S2 := Lib.hid (fun d os => Calls.regrown_of (H3.out (grow (redrawn w2 d) os) (hE.below (below_regrown w2 d os))))
  clear hE H2 H3
  refine wp_region_quiet_below (by kernel_rfl) (by kernel_rfl) ?_
  repeat (first | quiet_step (with_reducible exact S1.out _ _) | quiet_step (with_reducible exact S2.out _ _))
  refine wpQuiet_nil ?_
  intro _ hw'
  obtain ⟨⟨dq, osq⟩, hw''⟩ := hw'
  subst hw''
  have hb := below_regrown w2 dq osq
  clear e0 e1 e2 e3 e4 e5 e6 e7 e8 e9 S1 S2
  generalize grow (redrawn w2 dq) osq = W3 at *
  replace hB := bstep hB hb
  have R4 := Lib.hid (keep hb R4.out)
  have R5 := Lib.hid (keep hb R5.out)
  have R6 := Lib.hid (keep hb R6.out)
  clear hb R3
  go_wp2_with fail
  refine (H4.out _ (HE.out.below hB)).mono ?_
  rintro e w4 ⟨rfl, hb⟩
  replace hB := bstep hB hb
  have R4 := Lib.hid (keep hb R4.out)
  have R5 := Lib.hid (keep hb R5.out)
  have R6 := Lib.hid (keep hb R6.out)
  clear hb
  go_wp2_with fail
  refine (H5.out _ (HE.out.below hB)).mono ?_
  rintro e w5 ⟨rfl, hb⟩
  replace hB := bstep hB hb
  have R4 := Lib.hid (keep hb R4.out)
  have R5 := Lib.hid (keep hb R5.out)
  have R6 := Lib.hid (keep hb R6.out)
  clear hb
  obtain ⟨R6c0, R6c1, R6c2, R6f0, R6f1, R6f2⟩ := row3 R6.out
  go_wp2_with fail
  exact bodyPost_ret (res_ct rfl vec_row rfl (store3 R6.out _ _ _) rfl) rfl ⟨rfl, store3_below hB (by omega) _ _ _⟩
end Go.Proofs.YtmdgfjkaamjgcaaGreatDoor

/- Walks of the law VectorCrosses. -/
namespace Go.Proofs.YtmdgfjkaamjgcaaGreatDoor
open Go.RowKit Go.Shelf Go.Sort

attribute [local go_sem] Oper.semAt_some vec_guard vec_eq

set_option maxRecDepth 100000 in
set_option maxHeartbeats 8000000 in
theorem la_crosses_no (p0 p1 p2 p3 a0 a1 a2 b0 b1 b2 : ByteArray) (w : World) (hE : Env w)
    (hf : ∀ N t W, W.heap[N]? = some (.cells #[.string a0, .string a1, .string a2, .string b0, .string b1, .string b2] t (0, 0)) → Calls Tryz.prog 11 #[.agg #[.string p0, .string p1, .string p2, .string p3], .string ⟨#[]⟩, .slice (some ⟨N, 0, none⟩) 2 2] W fun e w' => e = .returned (.bool false) ∧ Below W.heap.size W w') :
    Calls Tryz.prog 9 #[.agg #[.string p0, .string p1, .string p2, .string p3], .agg #[.string a0, .string a1, .string a2], .agg #[.string b0, .string b1, .string b2]] w fun e w' => e = .returned (.bool true) ∧ Below w.heap.size w w' := by
  have HF := Lib.hid hf
  have HE := Lib.hid hE
  clear hE hf 
  go_enter Tryz.func9, Tryz.ntmps9
  go_wp2_with fail
  generalize hW : ((World.alloc w _).alloc _).alloc _ = W
  obtain ⟨hB, hsz, RP, RA, RB⟩ := A3 hW
  have RP := Lib.hid RP
  have RA := Lib.hid RA
  have RB := Lib.hid RB
  clear hW hsz
  refine (la_awake _ (HE.out.below hB)).mono ?_
  rintro e w1 ⟨rfl, hb⟩
  replace hB := bstep hB hb
  have RP := Lib.hid (keep hb RP.out)
  have RA := Lib.hid (keep hb RA.out)
  have RB := Lib.hid (keep hb RB.out)
  clear hb
  obtain ⟨RPc0, RPc1, RPc2, RPc3, RPf0, RPf1, RPf2, RPf3⟩ := row4 RP.out
  obtain ⟨RAc0, RAc1, RAc2, RAf0, RAf1, RAf2⟩ := row3 RA.out
  obtain ⟨RBc0, RBc1, RBc2, RBf0, RBf1, RBf2⟩ := row3 RB.out
  go_wp2_with fail
  clear RPc0 RPc1 RPc2 RPc3 RPf0 RPf1 RPf2 RPf3
  clear RAc0 RAc1 RAc2 RAf0 RAf1 RAf2
  clear RBc0 RBc1 RBc2 RBf0 RBf1 RBf2
  generalize hW : World.alloc _ _ = X
  obtain ⟨hb, hsz, RS⟩ := A1 hW
  replace hB := bstep hB hb
  have RP := Lib.hid (keep hb RP.out)
  have RA := Lib.hid (keep hb RA.out)
  have RB := Lib.hid (keep hb RB.out)
  clear hb
  have RS := Lib.hid RS
  clear hW hsz
  refine (HF.out _ _ _ RS.out).mono ?_
  rintro e w2 ⟨rfl, hb⟩
  replace hB := bstep hB hb
  have RP := Lib.hid (keep hb RP.out)
  have RA := Lib.hid (keep hb RA.out)
  have RB := Lib.hid (keep hb RB.out)
  clear hb RS
  go_wp2_with fail
  refine (la_awake _ (HE.out.below hB)).mono ?_
  rintro e w9 ⟨rfl, hb⟩
  go_wp2_with fail
  go_ret
  exact ⟨rfl, bstep hB hb⟩

set_option maxRecDepth 100000 in
set_option maxHeartbeats 8000000 in
theorem la_crosses_bad1 (p0 p1 p2 p3 a0 a1 a2 b0 b1 b2 : ByteArray) (w : World) (hE : Env w)
    (hf : ∀ N t W, W.heap[N]? = some (.cells #[.string a0, .string a1, .string a2, .string b0, .string b1, .string b2] t (0, 0)) → Calls Tryz.prog 11 #[.agg #[.string p0, .string p1, .string p2, .string p3], .string ⟨#[]⟩, .slice (some ⟨N, 0, none⟩) 2 2] W fun e w' => e = .returned (.bool true) ∧ Below W.heap.size W w')
    (h1 : ∀ w, Env w → Calls Tryz.prog 30 #[.agg #[.string p0, .string p1, .string p2, .string p3], .agg #[.string a0, .string a1, .string a2], .agg #[.string b0, .string b1, .string b2]] w fun e w' => e = .returned (.tuple #[.agg #[.string ⟨#[]⟩, .string ⟨#[]⟩, .string ⟨#[]⟩], .int .i64 1]) ∧ Below w.heap.size w w')
    (h2 : ∀ w, Env w → Calls Tryz.prog 30 #[.agg #[.string p0, .string p1, .string p2, .string p3], .agg #[.string b0, .string b1, .string b2], .agg #[.string a0, .string a1, .string a2]] w fun e w' => e = .returned (.tuple #[.agg #[.string ⟨#[]⟩, .string ⟨#[]⟩, .string ⟨#[]⟩], .int .i64 1]) ∧ Below w.heap.size w w') :
    Calls Tryz.prog 9 #[.agg #[.string p0, .string p1, .string p2, .string p3], .agg #[.string a0, .string a1, .string a2], .agg #[.string b0, .string b1, .string b2]] w fun e w' => e = .returned (.bool true) ∧ Below w.heap.size w w' := by
  have HF := Lib.hid hf
  have H1 := Lib.hid h1
  have H2 := Lib.hid h2
  have HE := Lib.hid hE
  clear hE hf h1 h2
  go_enter Tryz.func9, Tryz.ntmps9
  go_wp2_with fail
  generalize hW : ((World.alloc w _).alloc _).alloc _ = W
  obtain ⟨hB, hsz, RP, RA, RB⟩ := A3 hW
  have RP := Lib.hid RP
  have RA := Lib.hid RA
  have RB := Lib.hid RB
  clear hW hsz
  refine (la_awake _ (HE.out.below hB)).mono ?_
  rintro e w1 ⟨rfl, hb⟩
  replace hB := bstep hB hb
  have RP := Lib.hid (keep hb RP.out)
  have RA := Lib.hid (keep hb RA.out)
  have RB := Lib.hid (keep hb RB.out)
  clear hb
  obtain ⟨RPc0, RPc1, RPc2, RPc3, RPf0, RPf1, RPf2, RPf3⟩ := row4 RP.out
  obtain ⟨RAc0, RAc1, RAc2, RAf0, RAf1, RAf2⟩ := row3 RA.out
  obtain ⟨RBc0, RBc1, RBc2, RBf0, RBf1, RBf2⟩ := row3 RB.out
  go_wp2_with fail
  clear RPc0 RPc1 RPc2 RPc3 RPf0 RPf1 RPf2 RPf3
  clear RAc0 RAc1 RAc2 RAf0 RAf1 RAf2
  clear RBc0 RBc1 RBc2 RBf0 RBf1 RBf2
  generalize hW : World.alloc _ _ = X
  obtain ⟨hb, hsz, RS⟩ := A1 hW
  replace hB := bstep hB hb
  have RP := Lib.hid (keep hb RP.out)
  have RA := Lib.hid (keep hb RA.out)
  have RB := Lib.hid (keep hb RB.out)
  clear hb
  have RS := Lib.hid RS
  clear hW hsz
  refine (HF.out _ _ _ RS.out).mono ?_
  rintro e w2 ⟨rfl, hb⟩
  replace hB := bstep hB hb
  have RP := Lib.hid (keep hb RP.out)
  have RA := Lib.hid (keep hb RA.out)
  have RB := Lib.hid (keep hb RB.out)
  clear hb RS
  obtain ⟨RPc0, RPc1, RPc2, RPc3, RPf0, RPf1, RPf2, RPf3⟩ := row4 RP.out
  obtain ⟨RAc0, RAc1, RAc2, RAf0, RAf1, RAf2⟩ := row3 RA.out
  obtain ⟨RBc0, RBc1, RBc2, RBf0, RBf1, RBf2⟩ := row3 RB.out
  go_wp2_with fail
  clear RPc0 RPc1 RPc2 RPc3 RPf0 RPf1 RPf2 RPf3
  clear RAc0 RAc1 RAc2 RAf0 RAf1 RAf2
  clear RBc0 RBc1 RBc2 RBf0 RBf1 RBf2
  refine (H1.out _ (HE.out.below hB)).mono ?_
  rintro e w3 ⟨rfl, hb⟩
  replace hB := bstep hB hb
  have RP := Lib.hid (keep hb RP.out)
  have RA := Lib.hid (keep hb RA.out)
  have RB := Lib.hid (keep hb RB.out)
  clear hb
  obtain ⟨RPc0, RPc1, RPc2, RPc3, RPf0, RPf1, RPf2, RPf3⟩ := row4 RP.out
  obtain ⟨RAc0, RAc1, RAc2, RAf0, RAf1, RAf2⟩ := row3 RA.out
  obtain ⟨RBc0, RBc1, RBc2, RBf0, RBf1, RBf2⟩ := row3 RB.out
  have qRP := lp2 RP.out
  have qRA := lp2 RA.out
  have qRB := lp2 RB.out
  go_wp2_with fail
  clear RPc0 RPc1 RPc2 RPc3 RPf0 RPf1 RPf2 RPf3
  clear RAc0 RAc1 RAc2 RAf0 RAf1 RAf2
  clear RBc0 RBc1 RBc2 RBf0 RBf1 RBf2
  clear qRP qRA qRB
  generalize hW : World.alloc _ _ = V3
  obtain ⟨hb, hsz, RX⟩ := A1 hW
  replace hB := bstep hB hb
  have RP := Lib.hid (keep hb RP.out)
  have RA := Lib.hid (keep hb RA.out)
  have RB := Lib.hid (keep hb RB.out)
  clear hb
  have RX := Lib.hid RX
  clear hW hsz
  refine (H2.out _ (HE.out.below hB)).mono ?_
  rintro e w4 ⟨rfl, hb⟩
  replace hB := bstep hB hb
  have RP := Lib.hid (keep hb RP.out)
  have RA := Lib.hid (keep hb RA.out)
  have RB := Lib.hid (keep hb RB.out)
  have RX := Lib.hid (keep hb RX.out)
  clear hb
  obtain ⟨RXc0, RXc1, RXc2, RXf0, RXf1, RXf2⟩ := row3 RX.out
  have qRX := lp2 RX.out
  go_wp2_with fail
  clear RXc0 RXc1 RXc2 RXf0 RXf1 RXf2
  clear qRX
  go_ret
  exact ⟨rfl, bstep hB (A1 rfl).1⟩

set_option maxRecDepth 100000 in
set_option maxHeartbeats 8000000 in
theorem la_crosses_bad11 (p0 p1 p2 p3 a0 a1 a2 b0 b1 b2 : ByteArray) (w : World) (hE : Env w)
    (hf : ∀ N t W, W.heap[N]? = some (.cells #[.string a0, .string a1, .string a2, .string b0, .string b1, .string b2] t (0, 0)) → Calls Tryz.prog 11 #[.agg #[.string p0, .string p1, .string p2, .string p3], .string ⟨#[]⟩, .slice (some ⟨N, 0, none⟩) 2 2] W fun e w' => e = .returned (.bool true) ∧ Below W.heap.size W w')
    (h1 : ∀ w, Env w → Calls Tryz.prog 30 #[.agg #[.string p0, .string p1, .string p2, .string p3], .agg #[.string a0, .string a1, .string a2], .agg #[.string b0, .string b1, .string b2]] w fun e w' => e = .returned (.tuple #[.agg #[.string ⟨#[]⟩, .string ⟨#[]⟩, .string ⟨#[]⟩], .int .i64 11]) ∧ Below w.heap.size w w')
    (h2 : ∀ w, Env w → Calls Tryz.prog 30 #[.agg #[.string p0, .string p1, .string p2, .string p3], .agg #[.string b0, .string b1, .string b2], .agg #[.string a0, .string a1, .string a2]] w fun e w' => e = .returned (.tuple #[.agg #[.string ⟨#[]⟩, .string ⟨#[]⟩, .string ⟨#[]⟩], .int .i64 11]) ∧ Below w.heap.size w w') :
    Calls Tryz.prog 9 #[.agg #[.string p0, .string p1, .string p2, .string p3], .agg #[.string a0, .string a1, .string a2], .agg #[.string b0, .string b1, .string b2]] w fun e w' => e = .returned (.bool true) ∧ Below w.heap.size w w' := by
  have HF := Lib.hid hf
  have H1 := Lib.hid h1
  have H2 := Lib.hid h2
  have HE := Lib.hid hE
  clear hE hf h1 h2
  go_enter Tryz.func9, Tryz.ntmps9
  go_wp2_with fail
  generalize hW : ((World.alloc w _).alloc _).alloc _ = W
  obtain ⟨hB, hsz, RP, RA, RB⟩ := A3 hW
  have RP := Lib.hid RP
  have RA := Lib.hid RA
  have RB := Lib.hid RB
  clear hW hsz
  refine (la_awake _ (HE.out.below hB)).mono ?_
  rintro e w1 ⟨rfl, hb⟩
  replace hB := bstep hB hb
  have RP := Lib.hid (keep hb RP.out)
  have RA := Lib.hid (keep hb RA.out)
  have RB := Lib.hid (keep hb RB.out)
  clear hb
  obtain ⟨RPc0, RPc1, RPc2, RPc3, RPf0, RPf1, RPf2, RPf3⟩ := row4 RP.out
  obtain ⟨RAc0, RAc1, RAc2, RAf0, RAf1, RAf2⟩ := row3 RA.out
  obtain ⟨RBc0, RBc1, RBc2, RBf0, RBf1, RBf2⟩ := row3 RB.out
  go_wp2_with fail
  clear RPc0 RPc1 RPc2 RPc3 RPf0 RPf1 RPf2 RPf3
  clear RAc0 RAc1 RAc2 RAf0 RAf1 RAf2
  clear RBc0 RBc1 RBc2 RBf0 RBf1 RBf2
  generalize hW : World.alloc _ _ = X
  obtain ⟨hb, hsz, RS⟩ := A1 hW
  replace hB := bstep hB hb
  have RP := Lib.hid (keep hb RP.out)
  have RA := Lib.hid (keep hb RA.out)
  have RB := Lib.hid (keep hb RB.out)
  clear hb
  have RS := Lib.hid RS
  clear hW hsz
  refine (HF.out _ _ _ RS.out).mono ?_
  rintro e w2 ⟨rfl, hb⟩
  replace hB := bstep hB hb
  have RP := Lib.hid (keep hb RP.out)
  have RA := Lib.hid (keep hb RA.out)
  have RB := Lib.hid (keep hb RB.out)
  clear hb RS
  obtain ⟨RPc0, RPc1, RPc2, RPc3, RPf0, RPf1, RPf2, RPf3⟩ := row4 RP.out
  obtain ⟨RAc0, RAc1, RAc2, RAf0, RAf1, RAf2⟩ := row3 RA.out
  obtain ⟨RBc0, RBc1, RBc2, RBf0, RBf1, RBf2⟩ := row3 RB.out
  go_wp2_with fail
  clear RPc0 RPc1 RPc2 RPc3 RPf0 RPf1 RPf2 RPf3
  clear RAc0 RAc1 RAc2 RAf0 RAf1 RAf2
  clear RBc0 RBc1 RBc2 RBf0 RBf1 RBf2
  refine (H1.out _ (HE.out.below hB)).mono ?_
  rintro e w3 ⟨rfl, hb⟩
  replace hB := bstep hB hb
  have RP := Lib.hid (keep hb RP.out)
  have RA := Lib.hid (keep hb RA.out)
  have RB := Lib.hid (keep hb RB.out)
  clear hb
  obtain ⟨RPc0, RPc1, RPc2, RPc3, RPf0, RPf1, RPf2, RPf3⟩ := row4 RP.out
  obtain ⟨RAc0, RAc1, RAc2, RAf0, RAf1, RAf2⟩ := row3 RA.out
  obtain ⟨RBc0, RBc1, RBc2, RBf0, RBf1, RBf2⟩ := row3 RB.out
  have qRP := lp2 RP.out
  have qRA := lp2 RA.out
  have qRB := lp2 RB.out
  go_wp2_with fail
  clear RPc0 RPc1 RPc2 RPc3 RPf0 RPf1 RPf2 RPf3
  clear RAc0 RAc1 RAc2 RAf0 RAf1 RAf2
  clear RBc0 RBc1 RBc2 RBf0 RBf1 RBf2
  clear qRP qRA qRB
  generalize hW : World.alloc _ _ = V3
  obtain ⟨hb, hsz, RX⟩ := A1 hW
  replace hB := bstep hB hb
  have RP := Lib.hid (keep hb RP.out)
  have RA := Lib.hid (keep hb RA.out)
  have RB := Lib.hid (keep hb RB.out)
  clear hb
  have RX := Lib.hid RX
  clear hW hsz
  refine (H2.out _ (HE.out.below hB)).mono ?_
  rintro e w4 ⟨rfl, hb⟩
  replace hB := bstep hB hb
  have RP := Lib.hid (keep hb RP.out)
  have RA := Lib.hid (keep hb RA.out)
  have RB := Lib.hid (keep hb RB.out)
  have RX := Lib.hid (keep hb RX.out)
  clear hb
  obtain ⟨RXc0, RXc1, RXc2, RXf0, RXf1, RXf2⟩ := row3 RX.out
  have qRX := lp2 RX.out
  go_wp2_with fail
  clear RXc0 RXc1 RXc2 RXf0 RXf1 RXf2
  clear qRX
  go_ret
  exact ⟨rfl, bstep hB (A1 rfl).1⟩

set_option maxRecDepth 100000 in
set_option maxHeartbeats 8000000 in
theorem la_crosses_yes (p0 p1 p2 p3 a0 a1 a2 b0 b1 b2 x0 x1 x2 u0 u1 u2 v0 v1 v2 : ByteArray) (w : World) (hE : Env w)
    (hf : ∀ N t W, W.heap[N]? = some (.cells #[.string a0, .string a1, .string a2, .string b0, .string b1, .string b2] t (0, 0)) → Calls Tryz.prog 11 #[.agg #[.string p0, .string p1, .string p2, .string p3], .string ⟨#[]⟩, .slice (some ⟨N, 0, none⟩) 2 2] W fun e w' => e = .returned (.bool true) ∧ Below W.heap.size W w')
    (h1 : ∀ w, Env w → Calls Tryz.prog 30 #[.agg #[.string p0, .string p1, .string p2, .string p3], .agg #[.string a0, .string a1, .string a2], .agg #[.string b0, .string b1, .string b2]] w fun e w' => e = .returned (.tuple #[.agg #[.string x0, .string x1, .string x2], .int .i64 0]) ∧ Below w.heap.size w w')
    (h2 : ∀ w, Env w → Calls Tryz.prog 30 #[.agg #[.string p0, .string p1, .string p2, .string p3], .agg #[.string b0, .string b1, .string b2], .agg #[.string a0, .string a1, .string a2]] w fun e w' => e = .returned (.tuple #[.agg #[.string x0, .string x1, .string x2], .int .i64 0]) ∧ Below w.heap.size w w')
    (h3 : ∀ w, Env w → Calls Tryz.prog 26 #[.agg #[.string p0, .string p1, .string p2, .string p3], .agg #[.string x0, .string x1, .string x2]] w fun e w' => e = .returned (.tuple #[.int .i64 0, .int .i64 0]) ∧ Below w.heap.size w w')
    (h4 : ∀ w, Env w → Calls Tryz.prog 14 #[.agg #[.string x0, .string x1, .string x2], .agg #[.string a0, .string a1, .string a2]] w fun e w' => e = .returned (.tuple #[.agg #[.string u0, .string u1, .string u2], .int .i64 0]) ∧ Below w.heap.size w w')
    (h5 : ∀ w, Env w → Calls Tryz.prog 14 #[.agg #[.string b0, .string b1, .string b2], .agg #[.string a0, .string a1, .string a2]] w fun e w' => e = .returned (.tuple #[.agg #[.string v0, .string v1, .string v2], .int .i64 0]) ∧ Below w.heap.size w w')
    (h6 : ∀ w, Env w → Calls Tryz.prog 20 #[.agg #[.string u0, .string u1, .string u2], .agg #[.string v0, .string v1, .string v2]] w fun e w' => e = .returned (.tuple #[.agg #[.string ⟨#[48]⟩, .string ⟨#[48]⟩, .string ⟨#[48]⟩], .int .i64 0]) ∧ Below w.heap.size w w')
    (h7 : ∀ w, Env w → Calls Tryz.prog 41 #[.string a0, .string b0, .string x0] w fun e w' => e = .returned (.bool true) ∧ Below w.heap.size w w')
    (h8 : ∀ w, Env w → Calls Tryz.prog 41 #[.string a1, .string b1, .string x1] w fun e w' => e = .returned (.bool true) ∧ Below w.heap.size w w')
    (h9 : ∀ w, Env w → Calls Tryz.prog 41 #[.string a2, .string b2, .string x2] w fun e w' => e = .returned (.bool true) ∧ Below w.heap.size w w') :
    Calls Tryz.prog 9 #[.agg #[.string p0, .string p1, .string p2, .string p3], .agg #[.string a0, .string a1, .string a2], .agg #[.string b0, .string b1, .string b2]] w fun e w' => e = .returned (.bool true) ∧ Below w.heap.size w w' := by
  have HF := Lib.hid hf
  have H1 := Lib.hid h1
  have H2 := Lib.hid h2
  have H3 := Lib.hid h3
  have H4 := Lib.hid h4
  have H5 := Lib.hid h5
  have H6 := Lib.hid h6
  have H7 := Lib.hid h7
  have H8 := Lib.hid h8
  have H9 := Lib.hid h9
  have HE := Lib.hid hE
  clear hE hf h1 h2 h3 h4 h5 h6 h7 h8 h9
  go_enter Tryz.func9, Tryz.ntmps9
  go_wp2_with fail
  generalize hW : ((World.alloc w _).alloc _).alloc _ = W
  obtain ⟨hB, hsz, RP, RA, RB⟩ := A3 hW
  have RP := Lib.hid RP
  have RA := Lib.hid RA
  have RB := Lib.hid RB
  clear hW hsz
  refine (la_awake _ (HE.out.below hB)).mono ?_
  rintro e w1 ⟨rfl, hb⟩
  replace hB := bstep hB hb
  have RP := Lib.hid (keep hb RP.out)
  have RA := Lib.hid (keep hb RA.out)
  have RB := Lib.hid (keep hb RB.out)
  clear hb
  obtain ⟨RPc0, RPc1, RPc2, RPc3, RPf0, RPf1, RPf2, RPf3⟩ := row4 RP.out
  obtain ⟨RAc0, RAc1, RAc2, RAf0, RAf1, RAf2⟩ := row3 RA.out
  obtain ⟨RBc0, RBc1, RBc2, RBf0, RBf1, RBf2⟩ := row3 RB.out
  go_wp2_with fail
  clear RPc0 RPc1 RPc2 RPc3 RPf0 RPf1 RPf2 RPf3
  clear RAc0 RAc1 RAc2 RAf0 RAf1 RAf2
  clear RBc0 RBc1 RBc2 RBf0 RBf1 RBf2
  generalize hW : World.alloc _ _ = X
  obtain ⟨hb, hsz, RS⟩ := A1 hW
  replace hB := bstep hB hb
  have RP := Lib.hid (keep hb RP.out)
  have RA := Lib.hid (keep hb RA.out)
  have RB := Lib.hid (keep hb RB.out)
  clear hb
  have RS := Lib.hid RS
  clear hW hsz
  refine (HF.out _ _ _ RS.out).mono ?_
  rintro e w2 ⟨rfl, hb⟩
  replace hB := bstep hB hb
  have RP := Lib.hid (keep hb RP.out)
  have RA := Lib.hid (keep hb RA.out)
  have RB := Lib.hid (keep hb RB.out)
  clear hb RS
  obtain ⟨RPc0, RPc1, RPc2, RPc3, RPf0, RPf1, RPf2, RPf3⟩ := row4 RP.out
  obtain ⟨RAc0, RAc1, RAc2, RAf0, RAf1, RAf2⟩ := row3 RA.out
  obtain ⟨RBc0, RBc1, RBc2, RBf0, RBf1, RBf2⟩ := row3 RB.out
  go_wp2_with fail
  clear RPc0 RPc1 RPc2 RPc3 RPf0 RPf1 RPf2 RPf3
  clear RAc0 RAc1 RAc2 RAf0 RAf1 RAf2
  clear RBc0 RBc1 RBc2 RBf0 RBf1 RBf2
  refine (H1.out _ (HE.out.below hB)).mono ?_
  rintro e w3 ⟨rfl, hb⟩
  replace hB := bstep hB hb
  have RP := Lib.hid (keep hb RP.out)
  have RA := Lib.hid (keep hb RA.out)
  have RB := Lib.hid (keep hb RB.out)
  clear hb
  obtain ⟨RPc0, RPc1, RPc2, RPc3, RPf0, RPf1, RPf2, RPf3⟩ := row4 RP.out
  obtain ⟨RAc0, RAc1, RAc2, RAf0, RAf1, RAf2⟩ := row3 RA.out
  obtain ⟨RBc0, RBc1, RBc2, RBf0, RBf1, RBf2⟩ := row3 RB.out
  have qRP := lp2 RP.out
  have qRA := lp2 RA.out
  have qRB := lp2 RB.out
  go_wp2_with fail
  clear RPc0 RPc1 RPc2 RPc3 RPf0 RPf1 RPf2 RPf3
  clear RAc0 RAc1 RAc2 RAf0 RAf1 RAf2
  clear RBc0 RBc1 RBc2 RBf0 RBf1 RBf2
  clear qRP qRA qRB
  generalize hW : World.alloc _ _ = V3
  obtain ⟨hb, hsz, RX⟩ := A1 hW
  replace hB := bstep hB hb
  have RP := Lib.hid (keep hb RP.out)
  have RA := Lib.hid (keep hb RA.out)
  have RB := Lib.hid (keep hb RB.out)
  clear hb
  have RX := Lib.hid RX
  clear hW hsz
  refine (H2.out _ (HE.out.below hB)).mono ?_
  rintro e w4 ⟨rfl, hb⟩
  replace hB := bstep hB hb
  have RP := Lib.hid (keep hb RP.out)
  have RA := Lib.hid (keep hb RA.out)
  have RB := Lib.hid (keep hb RB.out)
  have RX := Lib.hid (keep hb RX.out)
  clear hb
  obtain ⟨RPc0, RPc1, RPc2, RPc3, RPf0, RPf1, RPf2, RPf3⟩ := row4 RP.out
  obtain ⟨RXc0, RXc1, RXc2, RXf0, RXf1, RXf2⟩ := row3 RX.out
  have qRP := lp2 RP.out
  have qRX := lp2 RX.out
  go_wp2_with fail
  clear RPc0 RPc1 RPc2 RPc3 RPf0 RPf1 RPf2 RPf3
  clear RXc0 RXc1 RXc2 RXf0 RXf1 RXf2
  clear qRP qRX
  generalize hW : World.alloc _ _ = V4
  obtain ⟨hb, hsz, RY⟩ := A1 hW
  replace hB := bstep hB hb
  have RP := Lib.hid (keep hb RP.out)
  have RA := Lib.hid (keep hb RA.out)
  have RB := Lib.hid (keep hb RB.out)
  have RX := Lib.hid (keep hb RX.out)
  clear hb
  have RY := Lib.hid RY
  clear hW hsz
  refine (H3.out _ (HE.out.below hB)).mono ?_
  rintro e w5 ⟨rfl, hb⟩
  replace hB := bstep hB hb
  have RP := Lib.hid (keep hb RP.out)
  have RA := Lib.hid (keep hb RA.out)
  have RB := Lib.hid (keep hb RB.out)
  have RX := Lib.hid (keep hb RX.out)
  have RY := Lib.hid (keep hb RY.out)
  clear hb
  obtain ⟨RXc0, RXc1, RXc2, RXf0, RXf1, RXf2⟩ := row3 RX.out
  obtain ⟨RAc0, RAc1, RAc2, RAf0, RAf1, RAf2⟩ := row3 RA.out
  go_wp2_with fail
  clear RXc0 RXc1 RXc2 RXf0 RXf1 RXf2
  clear RAc0 RAc1 RAc2 RAf0 RAf1 RAf2
  refine (H4.out _ (HE.out.below hB)).mono ?_
  rintro e w6 ⟨rfl, hb⟩
  replace hB := bstep hB hb
  have RP := Lib.hid (keep hb RP.out)
  have RA := Lib.hid (keep hb RA.out)
  have RB := Lib.hid (keep hb RB.out)
  have RX := Lib.hid (keep hb RX.out)
  have RY := Lib.hid (keep hb RY.out)
  clear hb
  obtain ⟨RBc0, RBc1, RBc2, RBf0, RBf1, RBf2⟩ := row3 RB.out
  obtain ⟨RAc0, RAc1, RAc2, RAf0, RAf1, RAf2⟩ := row3 RA.out
  have qRB := lp2 RB.out
  have qRA := lp2 RA.out
  go_wp2_with fail
  clear RBc0 RBc1 RBc2 RBf0 RBf1 RBf2
  clear RAc0 RAc1 RAc2 RAf0 RAf1 RAf2
  clear qRB qRA
  generalize hW : World.alloc _ _ = V6
  obtain ⟨hb, hsz, RU⟩ := A1 hW
  replace hB := bstep hB hb
  have RP := Lib.hid (keep hb RP.out)
  have RA := Lib.hid (keep hb RA.out)
  have RB := Lib.hid (keep hb RB.out)
  have RX := Lib.hid (keep hb RX.out)
  have RY := Lib.hid (keep hb RY.out)
  clear hb
  have RU := Lib.hid RU
  clear hW hsz
  refine (H5.out _ (HE.out.below hB)).mono ?_
  rintro e w7 ⟨rfl, hb⟩
  replace hB := bstep hB hb
  have RP := Lib.hid (keep hb RP.out)
  have RA := Lib.hid (keep hb RA.out)
  have RB := Lib.hid (keep hb RB.out)
  have RX := Lib.hid (keep hb RX.out)
  have RY := Lib.hid (keep hb RY.out)
  have RU := Lib.hid (keep hb RU.out)
  clear hb
  obtain ⟨RUc0, RUc1, RUc2, RUf0, RUf1, RUf2⟩ := row3 RU.out
  have qRU := lp2 RU.out
  go_wp2_with fail
  clear RUc0 RUc1 RUc2 RUf0 RUf1 RUf2
  clear qRU
  generalize hW : World.alloc _ _ = V7
  obtain ⟨hb, hsz, RV⟩ := A1 hW
  replace hB := bstep hB hb
  have RP := Lib.hid (keep hb RP.out)
  have RA := Lib.hid (keep hb RA.out)
  have RB := Lib.hid (keep hb RB.out)
  have RX := Lib.hid (keep hb RX.out)
  have RY := Lib.hid (keep hb RY.out)
  have RU := Lib.hid (keep hb RU.out)
  clear hb
  have RV := Lib.hid RV
  clear hW hsz
  refine (H6.out _ (HE.out.below hB)).mono ?_
  rintro e w8 ⟨rfl, hb⟩
  replace hB := bstep hB hb
  have RP := Lib.hid (keep hb RP.out)
  have RA := Lib.hid (keep hb RA.out)
  have RB := Lib.hid (keep hb RB.out)
  have RX := Lib.hid (keep hb RX.out)
  have RY := Lib.hid (keep hb RY.out)
  have RU := Lib.hid (keep hb RU.out)
  have RV := Lib.hid (keep hb RV.out)
  clear hb
  go_wp2_with fail
  generalize hW : World.alloc _ _ = V8
  obtain ⟨hb, hsz, RC⟩ := A1 hW
  replace hB := bstep hB hb
  have RP := Lib.hid (keep hb RP.out)
  have RA := Lib.hid (keep hb RA.out)
  have RB := Lib.hid (keep hb RB.out)
  have RX := Lib.hid (keep hb RX.out)
  have RY := Lib.hid (keep hb RY.out)
  have RU := Lib.hid (keep hb RU.out)
  have RV := Lib.hid (keep hb RV.out)
  clear hb
  have RC := Lib.hid RC
  clear hW hsz
  have hRA0 : ∀ d os, (grow (redrawn V8 d) os).cell? ⟨w.heap.size + 1, 0, none⟩ = some (.string a0) := fun d os => cell_regrown (row3 RA.out).1 d os
  have hRA1 : ∀ d os, (grow (redrawn V8 d) os).cell? ⟨w.heap.size + 1, 1, none⟩ = some (.string a1) := fun d os => cell_regrown (row3 RA.out).2.1 d os
  have hRA2 : ∀ d os, (grow (redrawn V8 d) os).cell? ⟨w.heap.size + 1, 2, none⟩ = some (.string a2) := fun d os => cell_regrown (row3 RA.out).2.2.1 d os
  have hRB0 : ∀ d os, (grow (redrawn V8 d) os).cell? ⟨w.heap.size + 2, 0, none⟩ = some (.string b0) := fun d os => cell_regrown (row3 RB.out).1 d os
  have hRB1 : ∀ d os, (grow (redrawn V8 d) os).cell? ⟨w.heap.size + 2, 1, none⟩ = some (.string b1) := fun d os => cell_regrown (row3 RB.out).2.1 d os
  have hRB2 : ∀ d os, (grow (redrawn V8 d) os).cell? ⟨w.heap.size + 2, 2, none⟩ = some (.string b2) := fun d os => cell_regrown (row3 RB.out).2.2.1 d os
  have hRX0 : ∀ d os, (grow (redrawn V8 d) os).cell? ⟨w3.heap.size, 0, none⟩ = some (.string x0) := fun d os => cell_regrown (row3 RX.out).1 d os
  have hRX1 : ∀ d os, (grow (redrawn V8 d) os).cell? ⟨w3.heap.size, 1, none⟩ = some (.string x1) := fun d os => cell_regrown (row3 RX.out).2.1 d os
  have hRX2 : ∀ d os, (grow (redrawn V8 d) os).cell? ⟨w3.heap.size, 2, none⟩ = some (.string x2) := fun d os => cell_regrown (row3 RX.out).2.2.1 d os
  have hRY0 : ∀ d os, (grow (redrawn V8 d) os).cell? ⟨w4.heap.size, 0, none⟩ = some (.string x0) := fun d os => cell_regrown (row3 RY.out).1 d os
  have hRY1 : ∀ d os, (grow (redrawn V8 d) os).cell? ⟨w4.heap.size, 1, none⟩ = some (.string x1) := fun d os => cell_regrown (row3 RY.out).2.1 d os
  have hRY2 : ∀ d os, (grow (redrawn V8 d) os).cell? ⟨w4.heap.size, 2, none⟩ = some (.string x2) := fun d os => cell_regrown (row3 RY.out).2.2.1 d os
  have hRC0 : ∀ d os, (grow (redrawn V8 d) os).cell? ⟨w8.heap.size, 0, none⟩ = some (.string ⟨#[48]⟩) := fun d os => cell_regrown (row3 RC.out).1 d os
  have hRC1 : ∀ d os, (grow (redrawn V8 d) os).cell? ⟨w8.heap.size, 1, none⟩ = some (.string ⟨#[48]⟩) := fun d os => cell_regrown (row3 RC.out).2.1 d os
  have hRC2 : ∀ d os, (grow (redrawn V8 d) os).cell? ⟨w8.heap.size, 2, none⟩ = some (.string ⟨#[48]⟩) := fun d os => cell_regrown (row3 RC.out).2.2.1 d os
  have hE := HE.out.below hB
  have T1 := Lib.hid (fun a b c d os => Calls.regrown_of (la_vec a b c (grow (redrawn V8 d) os)))
  have T7 := Lib.hid (fun d os => Calls.regrown_of (H7.out (grow (redrawn V8 d) os) (hE.below (below_regrown V8 d os))))
  have T8 := Lib.hid (fun d os => Calls.regrown_of (H8.out (grow (redrawn V8 d) os) (hE.below (below_regrown V8 d os))))
  have T9 := Lib.hid (fun d os => Calls.regrown_of (H9.out (grow (redrawn V8 d) os) (hE.below (below_regrown V8 d os))))
  clear hE H1 H2 H3 H4 H5 H6 H7 H8 H9
  refine wp_region_quiet_below (by kernel_rfl) (by kernel_rfl) ?_
  repeat (first | quiet_step (with_reducible exact T1.out _ _ _ _ _) | quiet_step (with_reducible exact T7.out _ _) | quiet_step (with_reducible exact T8.out _ _) | quiet_step (with_reducible exact T9.out _ _))
  refine wpQuiet_nil ?_
  intro _ hw'
  obtain ⟨⟨dq, osq⟩, hw''⟩ := hw'
  subst hw''
  have hb := below_regrown V8 dq osq
  clear hRA0 hRA1 hRA2 hRB0 hRB1 hRB2 hRX0 hRX1 hRX2 hRY0 hRY1 hRY2 hRC0 hRC1 hRC2 T1 T7 T8 T9
  generalize grow (redrawn V8 dq) osq = Z at *
  go_wp2_with fail
  go_ret
  exact ⟨rfl, bstep hB hb⟩
end Go.Proofs.YtmdgfjkaamjgcaaGreatDoor

/- The law VectorCrosses answers true at whatever strings. -/
namespace Go.Proofs.YtmdgfjkaamjgcaaGreatDoor
open Go.RowKit Go.Shelf Go.Sort

theorem cmp_le {a b : Rat} : cmpQ a b ≤ 0 ↔ ¬ b < a := by
  unfold cmpQ cmpI
  rw [Rat.lt_iff]
  generalize a.num * (b.den : Int) = x
  generalize b.num * (a.den : Int) = y
  by_cases h1 : x < y
  · rw [if_pos h1]; omega
  · rw [if_neg h1]
    by_cases h2 : y < x
    · rw [if_pos h2]; omega
    · rw [if_neg h2]; omega
theorem cmp_pos {a b : Rat} : 0 < cmpQ a b ↔ b < a := by
  constructor
  · intro h
    by_cases k : b < a
    · exact k
    · have := cmp_le.2 k; omega
  · intro h
    by_cases k : cmpQ a b ≤ 0
    · exact absurd h (cmp_le.1 k)
    · omega
theorem hasQ_of {x y z : Rat} (h1 : ¬ y < x) (h2 : ¬ z < x) (h3 : ¬ y < z) : hasQ x y z = true := by
  unfold hasQ
  rw [decide_eq_true (cmp_le.2 h1), decide_eq_false (fun k => h2 (cmpQ_neg.1 k)), decide_eq_false (fun k => h3 (cmpQ_neg.1 k))]
  rfl
theorem between {a b t : Rat} (t0 : 0 ≤ t) (t1 : t ≤ 1) : (hasQ a b (a + (b - a) * t) || hasQ b a (a + (b - a) * t)) = true := by
  rcases Rat.le_total (a := a) (b := b) with h | h
  · have p := Rat.mul_nonneg (show 0 ≤ b - a by grind) t0
    have q := Rat.mul_nonneg (show 0 ≤ b - a by grind) (show 0 ≤ 1 - t by grind)
    rw [hasQ_of (by grind) (by grind) (by grind)]; rfl
  · have p := Rat.mul_nonneg (show 0 ≤ a - b by grind) t0
    have q := Rat.mul_nonneg (show 0 ≤ a - b by grind) (show 0 ≤ 1 - t by grind)
    rw [hasQ_of (x := b) (y := a) (by grind) (by grind) (by grind), Bool.or_true]
theorem frac {h k : Rat} (hs : (0 < h ∧ ¬ 0 < k) ∨ (¬ 0 < h ∧ 0 < k)) : h - k ≠ 0 ∧ 0 ≤ h / (h - k) ∧ h / (h - k) ≤ 1 := by
  have hne : h - k ≠ 0 := by rcases hs with ⟨h1, h2⟩ | ⟨h1, h2⟩ <;> grind
  have ht : h / (h - k) * (h - k) = h := by grind
  refine ⟨hne, ?_⟩
  generalize h / (h - k) = t at ht
  rcases hs with ⟨h1, h2⟩ | ⟨h1, h2⟩
  · constructor
    · by_cases q : 0 ≤ t
      · exact q
      · have := Rat.mul_pos (show 0 < -t by grind) (show 0 < h - k by grind); grind
    · by_cases q : t ≤ 1
      · exact q
      · have := Rat.mul_pos (show 0 < t - 1 by grind) (show 0 < h - k by grind); grind
  · constructor
    · by_cases q : 0 ≤ t
      · exact q
      · have := Rat.mul_pos (show 0 < -t by grind) (show 0 < k - h by grind); grind
    · by_cases q : t ≤ 1
      · exact q
      · have := Rat.mul_pos (show 0 < t - 1 by grind) (show 0 < k - h by grind); grind

theorem one_swap (h k a b : Rat) (hne : h - k ≠ 0) : b + (a - b) * (k / (k - h)) = a + (b - a) * (h / (h - k)) := by
  have e : k / (k - h) = 1 - h / (h - k) := by grind
  rw [e]
  generalize h / (h - k) = t
  grind
theorem m_swap (n : V3) (c : Rat) (a b : V3) (hne : hgt n c a - hgt n c b ≠ 0) : crs n c b a = crs n c a b := by
  simp only [crs, addV, scaleV, subV, V3.mk.injEq]
  exact ⟨one_swap _ _ _ _ hne, one_swap _ _ _ _ hne, one_swap _ _ _ _ hne⟩
theorem m_on (n : V3) (c : Rat) (a b : V3) (hne : hgt n c a - hgt n c b ≠ 0) : hgt n c (crs n c a b) = 0 := by
  have ht : hgt n c a / (hgt n c a - hgt n c b) * (hgt n c a - hgt n c b) = hgt n c a := by
    generalize hgt n c a = h at *
    generalize hgt n c b = k at *
    grind
  have e : hgt n c (crs n c a b) = hgt n c a - hgt n c a / (hgt n c a - hgt n c b) * (hgt n c a - hgt n c b) := by
    simp only [crs]
    generalize hgt n c a / (hgt n c a - hgt n c b) = t
    simp only [hgt, dotV, addV, scaleV, subV]
    grind
  rw [e, ht]; grind
theorem m_line (n : V3) (c : Rat) (a b : V3) : crossV (subV (crs n c a b) a) (subV b a) = ⟨0, 0, 0⟩ := by
  simp only [crs]
  generalize hgt n c a / (hgt n c a - hgt n c b) = t
  simp only [crossV, addV, scaleV, subV, V3.mk.injEq]
  exact ⟨by grind, by grind, by grind⟩

theorem in_rs (x y z : Rat) (w : World) (hE : Env w) (hx : Sz 4000000 x) (hy : Sz 4000000 y) (hz : Sz 4000000 z) (h : (hasQ x y z || hasQ y x z) = true) :
    Calls Tryz.prog 41 #[.string (rs x), .string (rs y), .string (rs z)] w fun e w' => e = .returned (.bool true) ∧ Below w.heap.size w w' := by
  have k := la_in_aux _ _ _ _ _ w hE (fun w hE => iv_Has x y z w hE hx hy hz) (fun w hE => iv_Has y x z w hE hy hx hz)
  rwa [h] at k

theorem few_plane {p0 p1 p2 p3 a0 a1 a2 b0 b1 b2 : ByteArray} (hp : Mx (p0, p1, p2)) (hq : p3.size ≤ 9223372036854775807) (ha : Mx (a0, a1, a2)) (hb : Mx (b0, b1, b2)) (f : Bool)
    (h0 : Sh20 (p0, p1, p2) → p3.size ≤ 20 → Sh20 (a0, a1, a2) → Sh20 (b0, b1, b2) → f = true) (h1 : ¬ (Sh20 (p0, p1, p2) ∧ p3.size ≤ 20 ∧ Sh20 (a0, a1, a2) ∧ Sh20 (b0, b1, b2)) → f = false) (N : Nat) (t : TypeId) (W : World)
    (h : W.heap[N]? = some (.cells #[.string a0, .string a1, .string a2, .string b0, .string b1, .string b2] t (0, 0))) :
    Calls Tryz.prog 11 #[.agg #[.string p0, .string p1, .string p2, .string p3], .string ⟨#[]⟩, .slice (some ⟨N, 0, none⟩) 2 2] W fun e w' => e = .returned (.bool f) ∧ Below W.heap.size W w' := by
  obtain ⟨r1, k0, k1⟩ : ∃ r : Bool, (Sh20 (p0, p1, p2) → r = true) ∧ (¬ Sh20 (p0, p1, p2) → r = false) := by
    by_cases k : Sh20 (p0, p1, p2)
    · exact ⟨true, fun _ => rfl, fun hn => absurd k hn⟩
    · exact ⟨false, fun x => absurd x k, fun _ => rfl⟩
  obtain ⟨r2, l0, l1⟩ : ∃ r : Bool, (Sh20 (a0, a1, a2) → Sh20 (b0, b1, b2) → r = true) ∧ (¬ (Sh20 (a0, a1, a2) ∧ Sh20 (b0, b1, b2)) → r = false) := by
    by_cases k : Sh20 (a0, a1, a2) ∧ Sh20 (b0, b1, b2)
    · exact ⟨true, fun _ _ => rfl, fun hn => absurd k hn⟩
    · exact ⟨false, fun x y => absurd ⟨x, y⟩ k, fun _ => rfl⟩
  have hfew := la_few p0 p1 p2 p3 ⟨#[]⟩ (.slice (some ⟨N, 0, none⟩) 2 2) r1 r2 W hq mkE
    (fun N' W' h' => la_Few1 hp r1 k0 k1 N' W' h')
    (fun W' hB => la_Few2 ha hb r2 l0 l1 N W' (keep hB h))
  have e : fewR p3 ⟨#[]⟩ r1 r2 = f := by
    unfold fewR
    rw [show decide ((⟨#[]⟩ : ByteArray).size ≤ 20) = true from rfl, Bool.and_true]
    by_cases kp : Sh20 (p0, p1, p2)
    · rw [k0 kp]
      by_cases kq : p3.size ≤ 20
      · rw [decide_eq_true kq]
        by_cases kl : Sh20 (a0, a1, a2) ∧ Sh20 (b0, b1, b2)
        · rw [l0 kl.1 kl.2, h0 kp kq kl.1 kl.2]; rfl
        · rw [l1 kl, h1 (fun q => kl q.2.2)]; rfl
      · rw [decide_eq_false kq, h1 (fun q => kq q.2.1)]; rfl
    · rw [k1 kp, h1 (fun q => kp q.1), Bool.and_false]; rfl
  rwa [e] at hfew

theorem la_crosses_rs (n : V3) (c : Rat) (a b : V3) (w : World) (hE : Env w) (hn : SzV 21 n) (hc : Sz 21 c) (ha : SzV 21 a) (hb : SzV 21 b) (h0 : zero3 n = false)
    (hs : (0 < hgt n c a ∧ ¬ 0 < hgt n c b) ∨ (¬ 0 < hgt n c a ∧ 0 < hgt n c b))
    (sn : Sh20 (rs n.x, rs n.y, rs n.z)) (sc : (rs c).size ≤ 20) (sa : Sh20 (rs a.x, rs a.y, rs a.z)) (sb : Sh20 (rs b.x, rs b.y, rs b.z)) :
    Calls Tryz.prog 9 #[pV n c, vV a, vV b] w fun e w' => e = .returned (.bool true) ∧ Below w.heap.size w w' := by
  obtain ⟨hne, t0, t1⟩ := frac hs
  have hne' : hgt n c b - hgt n c a ≠ 0 := fun h => hne (by grind)
  have h1 := sz_hgt hn hc ha
  have h2 := sz_hgt hn hc hb
  have h4 := sz_div h1 (sz_sub h1 h2) hne
  have hx : SzV 50000 (crs n c a b) := (szV_add (ha.mono (show 21 ≤ 12000 by decide)) ((szV_scale (szV_sub hb ha) h4).mono (show _ ≤ 12000 by decide))).mono (by decide)
  have up : ∀ {k : Nat} {v : V3}, SzV k v → k ≤ 50000 → SzV 500000 v := fun h k => h.mono (Nat.le_trans k (by decide))
  have fz : ∀ {k : Nat} {x : Rat}, Sz k x → k ≤ 50000 → Sz 4000000 x := fun h k => h.mono (Nat.le_trans k (by decide))
  have g1 : ((decide (0 < cmpQ (hgt n c a) 0)) == (decide (0 < cmpQ (hgt n c b) 0))) = false := by
    rcases hs with ⟨k1, k2⟩ | ⟨k1, k2⟩
    · rw [decide_eq_true (cmp_pos.2 k1), decide_eq_false (fun q => k2 (cmp_pos.1 q))]; rfl
    · rw [decide_eq_false (fun q => k1 (cmp_pos.1 q)), decide_eq_true (cmp_pos.2 k2)]; rfl
  have g2 : ((decide (0 < cmpQ (hgt n c b) 0)) == (decide (0 < cmpQ (hgt n c a) 0))) = false := by
    rw [← g1]; exact Bool.beq_comm
  refine la_crosses_yes _ _ _ _ _ _ _ _ _ _ (rs (crs n c a b).x) (rs (crs n c a b).y) (rs (crs n c a b).z) (rs (subV (crs n c a b) a).x) (rs (subV (crs n c a b) a).y) (rs (subV (crs n c a b) a).z) (rs (subV b a).x) (rs (subV b a).y) (rs (subV b a).z) w hE
    (fun N t W h => few_plane (sh_mx sn) (Nat.le_trans sc (by decide)) (sh_mx sa) (sh_mx sb) true (fun _ _ _ _ => rfl) (fun hn => absurd ⟨sn, sc, sa, sb⟩ hn) N t W h)
    (fun w hE => ve_Crossing n c a b w hE (hn.mono (by decide)) (hc.mono (by decide)) (ha.mono (by decide)) (hb.mono (by decide)) h0 g1 hne) ?_ ?_
    (fun w hE => ve_Sub _ a w hE (up hx (by decide)) (up ha (by decide))) (fun w hE => ve_Sub b a w hE (up hb (by decide)) (up ha (by decide))) ?_
    (fun w hE => in_rs a.x b.x _ w hE (fz ha.1 (by decide)) (fz hb.1 (by decide)) (fz hx.1 (by decide)) (between t0 t1))
    (fun w hE => in_rs a.y b.y _ w hE (fz ha.2.1 (by decide)) (fz hb.2.1 (by decide)) (fz hx.2.1 (by decide)) (between t0 t1))
    (fun w hE => in_rs a.z b.z _ w hE (fz ha.2.2 (by decide)) (fz hb.2.2 (by decide)) (fz hx.2.2 (by decide)) (between t0 t1))
  · intro w hE
    have h := ve_Crossing n c b a w hE (hn.mono (by decide)) (hc.mono (by decide)) (hb.mono (by decide)) (ha.mono (by decide)) h0 g2 hne'
    rwa [m_swap n c a b hne] at h
  · intro w hE
    have h := ve_Side n c (crs n c a b) w hE (hn.mono (by decide)) (hc.mono (by decide)) hx h0
    rwa [cmp_zero (m_on n c a b hne)] at h
  · intro w hE
    have h := ve_Cross (subV (crs n c a b) a) (subV b a) w hE ((szV_sub hx (ha.mono (by decide))).mono (by decide)) ((szV_sub hb ha).mono (by decide))
    rw [m_line] at h
    simp only [vV, rs_0] at h
    exact h

theorem la_crosses (p0 p1 p2 p3 a0 a1 a2 b0 b1 b2 : ByteArray) (w : World) (hE : Env w) (hp : Mx (p0, p1, p2) ∧ p3.size ≤ 9223372036854775807) (ha : Mx (a0, a1, a2)) (hb : Mx (b0, b1, b2)) :
    Calls Tryz.prog 9 #[.agg #[.string p0, .string p1, .string p2, .string p3], .agg #[.string a0, .string a1, .string a2], .agg #[.string b0, .string b1, .string b2]] w fun e w' => e = .returned (.bool true) ∧ Below w.heap.size w w' := by
  by_cases hs : Sh20 (p0, p1, p2) ∧ p3.size ≤ 20 ∧ Sh20 (a0, a1, a2) ∧ Sh20 (b0, b1, b2)
  · have hF := fun N t W h => few_plane hp.1 hp.2 ha hb true (fun _ _ _ _ => rfl) (fun hn => absurd hs hn) N t W h
    obtain ⟨sp, sq, sa, sb⟩ := hs
    have fw : ∀ {s : ByteArray}, s.size ≤ 20 → s.size ≤ 10000000 := fun h => Nat.le_trans h (by decide)
    have fv : ∀ {s : ByteArray × ByteArray × ByteArray}, Sh20 s → ShV s := fun h => ⟨fw h.1, fw h.2.1, fw h.2.2⟩
    have HP := fun w hE => ve_plane p0 p1 p2 p3 (rvB p0 && rvB p1 && rvB p2) (rvB p3) _ _ _ w hE (fun w hE => ve_Valid p0 p1 p2 w hE (fw sp.1) (fw sp.2.1) (fw sp.2.2)) (fun w hE => ra_Valid p3 w hE (fw sq)) rfl rfl rfl
    cases hz : ((rvB p0 && rvB p1 && rvB p2) && rvB p3 && !((p0.toList == [48]) && ((p1.toList == [48]) && (p2.toList == [48]))))
    · have e : planeR (rvB p0 && rvB p1 && rvB p2) (rvB p3) ((p0.toList == [48]) && ((p1.toList == [48]) && (p2.toList == [48]))) = 1 := by unfold planeR; rw [hz]; rfl
      rw [e] at HP
      exact la_crosses_bad1 p0 p1 p2 p3 a0 a1 a2 b0 b1 b2 w hE hF (fun w hE => ve_Crossing_bad1 _ _ _ _ _ _ _ _ _ _ w hE HP) (fun w hE => ve_Crossing_bad1 _ _ _ _ _ _ _ _ _ _ w hE HP)
    · have e : planeR (rvB p0 && rvB p1 && rvB p2) (rvB p3) ((p0.toList == [48]) && ((p1.toList == [48]) && (p2.toList == [48]))) = 0 := by unfold planeR; rw [hz]; rfl
      rw [e] at HP
      by_cases hv : vvB (a0, a1, a2) = true ∧ vvB (b0, b1, b2) = true
      · rw [Bool.and_eq_true, Bool.and_eq_true] at hz
        obtain ⟨⟨z1, z2⟩, z3⟩ := hz
        obtain ⟨n, e0, e1, e2, zn⟩ := vec_of_text sp z1
        obtain ⟨c, ec, zc⟩ := rat_of_text sq z2
        obtain ⟨a, f0, f1, f2, za⟩ := vec_of_text sa hv.1
        obtain ⟨b, g0, g1, g2, zb⟩ := vec_of_text sb hv.2
        subst e0 e1 e2 ec f0 f1 f2 g0 g1 g2
        have h0 : zero3 n = false := by
          rw [rs_zero, rs_zero, rs_zero] at z3
          unfold zero3
          generalize (decide (n.x = 0) && (decide (n.y = 0) && decide (n.z = 0))) = q at z3 ⊢
          cases q <;> simp_all
        by_cases hs : (0 < hgt n c a ∧ ¬ 0 < hgt n c b) ∨ (¬ 0 < hgt n c a ∧ 0 < hgt n c b)
        · exact la_crosses_rs n c a b w hE zn zc za zb h0 hs sp sq sa sb
        · have h1 := sz_hgt zn zc za
          have h2 := sz_hgt zn zc zb
          have g1 : ((decide (0 < cmpQ (hgt n c a) 0)) == (decide (0 < cmpQ (hgt n c b) 0))) = true := by
            by_cases k1 : 0 < hgt n c a <;> by_cases k2 : 0 < hgt n c b
            · rw [decide_eq_true (cmp_pos.2 k1), decide_eq_true (cmp_pos.2 k2)]; rfl
            · exact absurd (Or.inl ⟨k1, k2⟩) hs
            · exact absurd (Or.inr ⟨k1, k2⟩) hs
            · rw [decide_eq_false (fun q => k1 (cmp_pos.1 q)), decide_eq_false (fun q => k2 (cmp_pos.1 q))]; rfl
          have g2 : ((decide (0 < cmpQ (hgt n c b) 0)) == (decide (0 < cmpQ (hgt n c a) 0))) = true := by
            rw [← g1]; exact Bool.beq_comm
          have A1 := fun w hE => ve_height n c a w hE (zn.mono (by decide)) (zc.mono (by decide)) (za.mono (by decide))
          have A2 := fun w hE => ve_height n c b w hE (zn.mono (by decide)) (zc.mono (by decide)) (zb.mono (by decide))
          have A3 := fun w hE => ve_sign (hgt n c a) w hE (h1.mono (by decide))
          have A4 := fun w hE => ve_sign (hgt n c b) w hE (h2.mono (by decide))
          exact la_crosses_bad11 _ _ _ _ _ _ _ _ _ _ w hE hF
            (fun w hE => ve_Crossing_same _ _ _ _ _ _ _ _ _ _ _ _ _ _ w hE (fv sa) (fv sb) (chk2_rs a b) g1 HP A1 A2 A3 A4)
            (fun w hE => ve_Crossing_same _ _ _ _ _ _ _ _ _ _ _ _ _ _ w hE (fv sb) (fv sa) (chk2_rs b a) g2 HP A2 A1 A4 A3)
      · exact la_crosses_bad1 p0 p1 p2 p3 a0 a1 a2 b0 b1 b2 w hE hF
          (fun w hE => ve_Crossing_bad2 _ _ _ _ _ _ _ _ _ _ w hE (fv sa) (fv sb) (by unfold chk2; rw [if_neg hv]) HP)
          (fun w hE => ve_Crossing_bad2 _ _ _ _ _ _ _ _ _ _ w hE (fv sb) (fv sa) (by unfold chk2; rw [if_neg (fun q => hv ⟨q.2, q.1⟩)]) HP)
  · exact la_crosses_no p0 p1 p2 p3 a0 a1 a2 b0 b1 b2 w hE (fun N t W h => few_plane hp.1 hp.2 ha hb false (fun k1 k2 k3 k4 => absurd ⟨k1, k2, k3, k4⟩ hs) (fun _ => rfl) N t W h)
end Go.Proofs.YtmdgfjkaamjgcaaGreatDoor

/- A plane opened and shut. -/
namespace Go.Proofs.YtmdgfjkaamjgcaaGreatDoor
open Go.ChangeShapes Go.WideShapes Go.ChangeAt Go.ChangeMaps Go.RowKit Go.Deep

theorem cells_pla : Tryz.prog.cellsOf 28 = 4 := by kernel_rfl
theorem cells_rat : Tryz.prog.cellsOf 22 = 1 := by kernel_rfl

section
variable {H : Type} {enc : TypeId × Value → H} {w : World} {base : Nat} {sp : Nat → Bool} {held : Bool}

set_option maxRecDepth 100000 in
theorem open_pla {r : Reach} {b0 : Nat} {v : Value} {d : DataW H} {p : List MemPlace} (hv : Value.okWide Tryz.prog w r b0 28 v) (h : DataW.Trod enc Tryz.prog w base sp held 28 v d p) :
    ∃ a0 a1 a2 a3 : ByteArray, v = .agg #[.string a0, .string a1, .string a2, .string a3] ∧ d = .agg [.agg [.lit (.string a0.data.toList), .lit (.string a1.data.toList), .lit (.string a2.data.toList)], .lit (.string a3.data.toList)] ∧ p = [] ∧ Mx (a0, a1, a2) ∧ a3.size ≤ 9223372036854775807 := by
  obtain ⟨cs, rfl, hsz⟩ := okWide_struct Tryz.underlying28 hv
  obtain ⟨c0, c1, c2, c3, rfl⟩ := Joins.array4 (hsz.trans cells_pla)
  obtain ⟨fuel, hf⟩ := h
  obtain ⟨y0, y1, n, hx, _, h0, h1⟩ := trod_struct2 Tryz.underlying28 hf
  rw [cells_vec] at h0
  rw [cells_rat] at h1
  have h0 : DataW.trod enc Tryz.prog w base sp held n 24 [c0, c1, c2] = some y0 := h0
  have h1 : DataW.trod enc Tryz.prog w base sp held n 22 [c3] = some y1 := h1
  obtain ⟨x0, x1, x2, m, hy, _, k0, k1, k2⟩ := trod_struct3 Tryz.underlying24 h0
  rw [cells_rat] at k0 k1 k2
  have k0 : DataW.trod enc Tryz.prog w base sp held m 22 [c0] = some x0 := k0
  have k1 : DataW.trod enc Tryz.prog w base sp held m 22 [c1] = some x1 := k1
  have k2 : DataW.trod enc Tryz.prog w base sp held m 22 [c2] = some x2 := k2
  obtain ⟨s0, e0, rfl, q0⟩ := DataW.trod_string Tryz.underlying22 k0
  obtain ⟨s1, e1, rfl, q1⟩ := DataW.trod_string Tryz.underlying22 k1
  obtain ⟨s2, e2, rfl, q2⟩ := DataW.trod_string Tryz.underlying22 k2
  obtain ⟨s3, e3, rfl, q3⟩ := DataW.trod_string Tryz.underlying22 h1
  obtain rfl := (List.cons.inj e0).1
  obtain rfl := (List.cons.inj e1).1
  obtain rfl := (List.cons.inj e2).1
  obtain rfl := (List.cons.inj e3).1
  subst hy
  simp only [Prod.mk.injEq] at hx
  exact ⟨s0, s1, s2, s3, rfl, hx.1, hx.2, ⟨Nat.le_trans q0 mx_len, Nat.le_trans q1 mx_len, Nat.le_trans q2 mx_len⟩, Nat.le_trans q3 mx_len⟩

set_option maxRecDepth 100000 in
theorem shut_pla {a0 a1 a2 a3 : ByteArray} (h : Mx (a0, a1, a2) ∧ a3.size ≤ 9223372036854775807) : DataW.Trod enc Tryz.prog w base sp held 28 (.agg #[.string a0, .string a1, .string a2, .string a3]) (.agg [.agg [.lit (.string a0.data.toList), .lit (.string a1.data.toList), .lit (.string a2.data.toList)], .lit (.string a3.data.toList)]) [] := by
  obtain ⟨n, hn⟩ := shut_vec (enc := enc) (w := w) (base := base) (sp := sp) (held := held) h.1
  obtain ⟨m, hm⟩ := shut_rat (enc := enc) (w := w) (base := base) (sp := sp) (held := held) h.2
  have hn : DataW.trod enc Tryz.prog w base sp held n 24 [.string a0, .string a1, .string a2] = some (.agg [.lit (.string a0.data.toList), .lit (.string a1.data.toList), .lit (.string a2.data.toList)], []) := hn
  have hm : DataW.trod enc Tryz.prog w base sp held m 22 [.string a3] = some (.lit (.string a3.data.toList), []) := hm
  have ts := trod_struct2_mk (enc := enc) (w := w) (base := base) (spare := sp) (held := held) (n := max n m) (cs := [.string a0, .string a1, .string a2, .string a3]) Tryz.underlying28 cells_pla.symm
    (by rw [cells_vec]; exact DataW.trod_le (Nat.le_max_left n m) hn) (by rw [cells_rat]; exact DataW.trod_le (Nat.le_max_right n m) hm)
  exact ⟨_, ts⟩
end
end Go.Proofs.YtmdgfjkaamjgcaaGreatDoor
