/- A PART OF THE PROOF, JOINED OUT OF 3 TEXTS. -/
import Derived.Test.YtgbabmkclojgeaaGreatDoorQyReturns
import Derived.Test.YtgbabmkclojgeaaGreatDoorPmVector
import Derived.Test.YtgbabmkclojgeaaGreatDoorRbRef
/- The program's package attitude: Water; Back at whatever texts. -/
namespace Go.Proofs.YtgbabmkclojgeaaGreatDoor
open Go.RowKit Go.Shelf Go.Sort

attribute [local go_sem] Oper.semAt_some


set_option maxRecDepth 100000 in
set_option maxHeartbeats 4000000 in
theorem at_Water_bad (h t d : ByteArray) (n v : Bool) (w : World) (hE : Env w) (hnv : (n && v) = false)
    (h1 : ∀ w, Env w → Calls Tryz.prog 119 #[.agg #[.string h, .string t]] w fun e w' => e = .returned (.bool n) ∧ Below w.heap.size w w')
    (h2 : ∀ w, Env w → Calls Tryz.prog 78 #[.string d] w fun e w' => e = .returned (.bool v) ∧ Below w.heap.size w w') :
    Calls Tryz.prog 52 #[.agg #[.string h, .string t], .string d] w fun e w' => e = .returned (.tuple #[.agg #[.string ⟨#[]⟩, .string ⟨#[]⟩, .string ⟨#[]⟩, .string ⟨#[]⟩], .int .i64 1]) ∧ Below w.heap.size w w' := by
  have H1 := Lib.hid h1
  have H2 := Lib.hid h2
  have HE := Lib.hid hE
  clear hE h1 h2
  cases n
  · clear hnv
    go_enter Tryz.func52, Tryz.ntmps52
    go_wp2_with fail
    generalize hW : (World.alloc w _).alloc _ = W
    obtain ⟨hB, hsz, R1, R2⟩ := A2 hW
    have R1 := Lib.hid R1
    have R2 := Lib.hid R2
    clear hW hsz
    obtain ⟨c0, c1, f0, f1⟩ := row2 R1.out
    go_wp2_with fail
    clear c0 c1 f0 f1
    refine (H1.out _ (HE.out.below hB)).mono ?_
    rintro e w1 ⟨rfl, hb⟩
    replace hB := bstep hB hb
    have R1 := Lib.hid (keep hb R1.out)
    have R2 := Lib.hid (keep hb R2.out)
    clear hb
    obtain ⟨q0, q1, q2, q3, q4, q5, q6, q7⟩ := row4 R2.out
    go_wp2_with fail
    exact bodyPost_ret (res_ct rfl plane_row rfl (store4 R2.out _ _ _ _) rfl) rfl ⟨rfl, store4_below hB (by omega) _ _ _ _⟩
  · cases v
    · clear hnv
      go_enter Tryz.func52, Tryz.ntmps52
      go_wp2_with fail
      generalize hW : (World.alloc w _).alloc _ = W
      obtain ⟨hB, hsz, R1, R2⟩ := A2 hW
      have R1 := Lib.hid R1
      have R2 := Lib.hid R2
      clear hW hsz
      obtain ⟨c0, c1, f0, f1⟩ := row2 R1.out
      go_wp2_with fail
      clear c0 c1 f0 f1
      refine (H1.out _ (HE.out.below hB)).mono ?_
      rintro e w1 ⟨rfl, hb⟩
      replace hB := bstep hB hb
      have R1 := Lib.hid (keep hb R1.out)
      have R2 := Lib.hid (keep hb R2.out)
      clear hb
      go_wp2_with fail
      refine (H2.out _ (HE.out.below hB)).mono ?_
      rintro e w2 ⟨rfl, hb⟩
      replace hB := bstep hB hb
      have R1 := Lib.hid (keep hb R1.out)
      have R2 := Lib.hid (keep hb R2.out)
      clear hb
      obtain ⟨q0, q1, q2, q3, q4, q5, q6, q7⟩ := row4 R2.out
      go_wp2_with fail
      exact bodyPost_ret (res_ct rfl plane_row rfl (store4 R2.out _ _ _ _) rfl) rfl ⟨rfl, store4_below hB (by omega) _ _ _ _⟩
    · exact absurd hnv (by decide)


set_option maxRecDepth 100000 in
set_option maxHeartbeats 4000000 in
theorem at_Water_err (h t d : ByteArray) (cc : Int) (w : World) (hE : Env w) (hc1 : (cc != 0) = true)
    (h1 : ∀ w, Env w → Calls Tryz.prog 119 #[.agg #[.string h, .string t]] w fun e w' => e = .returned (.bool true) ∧ Below w.heap.size w w')
    (h2 : ∀ w, Env w → Calls Tryz.prog 78 #[.string d] w fun e w' => e = .returned (.bool true) ∧ Below w.heap.size w w')
    (h3 : ∀ w, Env w → Calls Tryz.prog 55 #[.agg #[.string h, .string t]] w fun e w' => e = .returned (.int .i64 cc) ∧ Below w.heap.size w w') :
    Calls Tryz.prog 52 #[.agg #[.string h, .string t], .string d] w fun e w' => e = .returned (.tuple #[.agg #[.string ⟨#[]⟩, .string ⟨#[]⟩, .string ⟨#[]⟩, .string ⟨#[]⟩], .int .i64 cc]) ∧ Below w.heap.size w w' := by
  have H1 := Lib.hid h1
  have H2 := Lib.hid h2
  have H3 := Lib.hid h3
  have HE := Lib.hid hE
  clear hE h1 h2 h3
  go_enter Tryz.func52, Tryz.ntmps52
  go_wp2_with fail
  generalize hW : (World.alloc w _).alloc _ = W
  obtain ⟨hB, hsz, R1, R2⟩ := A2 hW
  have R1 := Lib.hid R1
  have R2 := Lib.hid R2
  clear hW hsz
  obtain ⟨c0, c1, f0, f1⟩ := row2 R1.out
  go_wp2_with fail
  clear c0 c1 f0 f1
  refine (H1.out _ (HE.out.below hB)).mono ?_
  rintro e w1 ⟨rfl, hb⟩
  replace hB := bstep hB hb
  have R1 := Lib.hid (keep hb R1.out)
  have R2 := Lib.hid (keep hb R2.out)
  clear hb
  go_wp2_with fail
  refine (H2.out _ (HE.out.below hB)).mono ?_
  rintro e w2 ⟨rfl, hb⟩
  replace hB := bstep hB hb
  have R1 := Lib.hid (keep hb R1.out)
  have R2 := Lib.hid (keep hb R2.out)
  clear hb
  obtain ⟨c0, c1, f0, f1⟩ := row2 R1.out
  go_wp2_with fail
  clear c0 c1 f0 f1
  refine (H3.out _ (HE.out.below hB)).mono ?_
  rintro e w3 ⟨rfl, hb⟩
  replace hB := bstep hB hb
  have R1 := Lib.hid (keep hb R1.out)
  have R2 := Lib.hid (keep hb R2.out)
  clear hb
  obtain ⟨q0, q1, q2, q3, q4, q5, q6, q7⟩ := row4 R2.out
  go_wp2_with fail
  exact bodyPost_ret (res_ct rfl plane_row rfl (store4 R2.out _ _ _ _) rfl) rfl ⟨rfl, store4_below hB (by omega) _ _ _ _⟩


set_option maxRecDepth 100000 in
set_option maxHeartbeats 4000000 in
theorem at_Water_ok (h t d z0 z1 z2 z3 z4 z5 z6 z7 z8 : ByteArray) (w : World) (hE : Env w)
    (h1 : ∀ w, Env w → Calls Tryz.prog 119 #[.agg #[.string h, .string t]] w fun e w' => e = .returned (.bool true) ∧ Below w.heap.size w w')
    (h2 : ∀ w, Env w → Calls Tryz.prog 78 #[.string d] w fun e w' => e = .returned (.bool true) ∧ Below w.heap.size w w')
    (h3 : ∀ w, Env w → Calls Tryz.prog 55 #[.agg #[.string h, .string t]] w fun e w' => e = .returned (.int .i64 0) ∧ Below w.heap.size w w')
    (h4 : ∀ w, Env w → Calls Tryz.prog 65 #[.agg #[.string h, .string t]] w fun e w' => e = .returned (.agg #[.string z0, .string z1, .string z2, .string z3, .string z4, .string z5, .string z6, .string z7, .string z8]) ∧ Below w.heap.size w w') :
    Calls Tryz.prog 52 #[.agg #[.string h, .string t], .string d] w fun e w' => e = .returned (.tuple #[.agg #[.string z6, .string z7, .string z8, .string d], .int .i64 0]) ∧ Below w.heap.size w w' := by
  have H1 := Lib.hid h1
  have H2 := Lib.hid h2
  have H3 := Lib.hid h3
  have H4 := Lib.hid h4
  have HE := Lib.hid hE
  clear hE h1 h2 h3 h4
  have i2 : ∀ w, (Instr.index 90 (.agg #[.string z0, .string z1, .string z2, .string z3, .string z4, .string z5, .string z6, .string z7, .string z8]) (.int .i64 2)).run Tryz.prog w = .ok (.agg #[.string z6, .string z7, .string z8]) w := fun _ => by kernel_rfl
  go_enter Tryz.func52, Tryz.ntmps52
  go_wp2_with fail
  generalize hW : (World.alloc w _).alloc _ = W
  obtain ⟨hB, hsz, R1, R2⟩ := A2 hW
  have R1 := Lib.hid R1
  have R2 := Lib.hid R2
  clear hW hsz
  obtain ⟨c0, c1, f0, f1⟩ := row2 R1.out
  go_wp2_with fail
  clear c0 c1 f0 f1
  refine (H1.out _ (HE.out.below hB)).mono ?_
  rintro e w1 ⟨rfl, hb⟩
  replace hB := bstep hB hb
  have R1 := Lib.hid (keep hb R1.out)
  have R2 := Lib.hid (keep hb R2.out)
  clear hb
  go_wp2_with fail
  refine (H2.out _ (HE.out.below hB)).mono ?_
  rintro e w2 ⟨rfl, hb⟩
  replace hB := bstep hB hb
  have R1 := Lib.hid (keep hb R1.out)
  have R2 := Lib.hid (keep hb R2.out)
  clear hb
  obtain ⟨c0, c1, f0, f1⟩ := row2 R1.out
  go_wp2_with fail
  clear c0 c1 f0 f1
  refine (H3.out _ (HE.out.below hB)).mono ?_
  rintro e w3 ⟨rfl, hb⟩
  replace hB := bstep hB hb
  have R1 := Lib.hid (keep hb R1.out)
  have R2 := Lib.hid (keep hb R2.out)
  clear hb
  obtain ⟨c0, c1, f0, f1⟩ := row2 R1.out
  go_wp2_with fail
  clear c0 c1 f0 f1
  refine (H4.out _ (HE.out.below hB)).mono ?_
  rintro e w4 ⟨rfl, hb⟩
  replace hB := bstep hB hb
  have R2 := Lib.hid (keep hb R2.out)
  clear hb
  obtain ⟨q0, q1, q2, q3, q4, q5, q6, q7⟩ := row4 R2.out
  go_wp2_with fail
  exact bodyPost_ret (res_ct rfl plane_row rfl (store4 R2.out _ _ _ _) rfl) rfl ⟨rfl, store4_below hB (by omega) _ _ _ _⟩
end Go.Proofs.YtgbabmkclojgeaaGreatDoor

/- The program's package attitude: Back and Water at whatever texts of up to 40 bytes. -/
namespace Go.Proofs.YtgbabmkclojgeaaGreatDoor
open Go.RowKit Go.Shelf Go.Sort

theorem at_BackA (s : ByteArray × ByteArray) (r : ByteArray × ByteArray × ByteArray) (w : World) (hE : Env w) (h1 : s.1.size ≤ 40) (h2 : s.2.size ≤ 40) (h3 : r.1.size ≤ 40) (h4 : r.2.1.size ≤ 40) (h5 : r.2.2.size ≤ 40) :
    Calls Tryz.prog 58 #[.agg #[.string s.1, .string s.2], txW r] w fun e w' => e = .returned (.tuple #[vres (((rvB s.1 && rvB s.2) && vvB r) && inR (rvX s.1) (rvX s.2)) (backV (rvX s.1) (rvX s.2) (vvX r)), .int .i64 (acode ((rvB s.1 && rvB s.2) && vvB r) (inR (rvX s.1) (rvX s.2)))]) ∧ Below w.heap.size w w' := by
  have fw : ∀ {k : Nat}, k ≤ 40 → k ≤ 10000000 := fun h => Nat.le_trans h (by decide)
  have hP := fun w hE => at_pointA s r w hE h1 h2 ⟨fw h3, fw h4, fw h5⟩
  cases hk : (((rvB s.1 && rvB s.2) && vvB r) && inR (rvX s.1) (rvX s.2)) with
  | false => exact at_Back_err _ _ _ _ _ _ w hE (acode_ne hk) hP
  | true =>
    rw [Bool.and_eq_true, Bool.and_eq_true] at hk
    obtain ⟨e1, e2⟩ := at_texts hk.1.1
    have er := vv_text hk.1.2
    have z1 : Sz 41 (rvX s.1) := sz_rvX h1 (by decide)
    have z2 : Sz 41 (rvX s.2) := sz_rvX h2 (by decide)
    have zr : SzV 41 (vvX r) := ⟨sz_rvX h3 (by decide), sz_rvX h4 (by decide), sz_rvX h5 (by decide)⟩
    have ec : acode ((rvB s.1 && rvB s.2) && vvB r) (inR (rvX s.1) (rvX s.2)) = 0 := by rw [hk.1.1, hk.1.2, hk.2]; rfl
    rw [ec]
    have hB := at_BackV (rvX s.1) (rvX s.2) (vvX r) w hE z1 z2 (zr.mono (by decide)) hk.2
    unfold vV at hB
    rw [← e1, ← e2, ← show r.1 = rs (vvX r).x from congrArg Prod.fst er, ← show r.2.1 = rs (vvX r).y from congrArg (fun q => q.2.1) er, ← show r.2.2 = rs (vvX r).z from congrArg (fun q => q.2.2) er] at hB
    exact hB

/-- The plane of the water, or none. -/
def wres (ok : Bool) (u : V3) (d : ByteArray) : Value := if ok = true then .agg #[.string (rs u.x), .string (rs u.y), .string (rs u.z), .string d] else .agg #[.string ⟨#[]⟩, .string ⟨#[]⟩, .string ⟨#[]⟩, .string ⟨#[]⟩]
theorem at_WaterA (s : ByteArray × ByteArray) (d : ByteArray) (w : World) (hE : Env w) (h1 : s.1.size ≤ 40) (h2 : s.2.size ≤ 40) (h3 : d.size ≤ 40) :
    Calls Tryz.prog 52 #[.agg #[.string s.1, .string s.2], .string d] w fun e w' => e = .returned (.tuple #[wres (((rvB s.1 && rvB s.2) && rvB d) && inR (rvX s.1) (rvX s.2)) (axU (rvX s.1) (rvX s.2)) d, .int .i64 (acode ((rvB s.1 && rvB s.2) && rvB d) (inR (rvX s.1) (rvX s.2)))]) ∧ Below w.heap.size w w' := by
  have hN := fun w hE => at_numbers s w hE (Nat.le_trans h1 (by decide)) (Nat.le_trans h2 (by decide))
  have hV := fun w hE => ra_Valid d w hE (Nat.le_trans h3 (by decide))
  have hC := fun w hE => at_Check s w hE (Nat.le_trans h1 (by decide)) (Nat.le_trans h2 (by decide))
  cases hv : ((rvB s.1 && rvB s.2) && rvB d) with
  | false => exact at_Water_bad _ _ _ _ _ w hE hv hN hV
  | true =>
    rw [Bool.and_eq_true] at hv
    simp only [hv.1] at hN hC
    simp only [hv.2] at hV
    cases hi : inR (rvX s.1) (rvX s.2) with
    | false =>
      simp only [hi] at hC
      exact at_Water_err _ _ _ _ w hE rfl hN hV hC
    | true =>
      simp only [hi] at hC
      obtain ⟨e1, e2⟩ := at_texts hv.1
      have z1 : Sz 41 (rvX s.1) := sz_rvX h1 (by decide)
      have z2 : Sz 41 (rvX s.2) := sz_rvX h2 (by decide)
      have hA := fun w hE => at_axes (rvX s.1) (rvX s.2) w hE (z1.mono (by decide)) (z2.mono (by decide)) hi
      rw [← e1, ← e2] at hA
      exact at_Water_ok _ _ _ _ _ _ _ _ _ _ _ _ w hE hN hV hC hA
end Go.Proofs.YtgbabmkclojgeaaGreatDoor

/- The reference of layer 16 at whatever texts. -/
namespace Go.Proofs.YtgbabmkclojgeaaGreatDoor
open Go.RowKit Go.Shelf Go.Sort

theorem r16_FrameOf_err (a b : ByteArray) (w : World) (ha : a.size ≤ 100) (hb : b.size ≤ 100) (hk : ((rvB a && rvB b) && inR (rvX a) (rvX b)) = false) :
    Calls Tryz.prog 117 #[.agg #[.string a, .string b]] w fun e w' => e = .returned (.tuple #[.agg #[.bool false, .slice none 0 0, .slice none 0 0, .bool false, .slice none 0 0, .slice none 0 0, .bool false, .slice none 0 0, .slice none 0 0, .bool false, .slice none 0 0, .slice none 0 0, .bool false, .slice none 0 0, .slice none 0 0, .bool false, .slice none 0 0, .slice none 0 0, .bool false, .slice none 0 0, .slice none 0 0, .bool false, .slice none 0 0, .slice none 0 0, .bool false, .slice none 0 0, .slice none 0 0], .int .i64 (acode (rvB a && rvB b) (inR (rvX a) (rvX b)))]) ∧ Below w.heap.size w w' := by
  cases hv : (rvB a && rvB b) with
  | false => exact r16_FrameOf_bad a b w ha hb hv
  | true =>
    rw [hv, Bool.true_and] at hk
    have ho := inR_out (rvX a) (rvX b)
    rw [hk] at ho
    rw [hk]
    exact r16_FrameOf_out a b w ha hb hv ho
theorem r16_FrameOf_yes (a b : ByteArray) (w : World) (ha : a.size ≤ 100) (hb : b.size ≤ 100) (hk : ((rvB a && rvB b) && inR (rvX a) (rvX b)) = true) :
    Calls Tryz.prog 117 #[.agg #[.string a, .string b]] w fun e w' => ∃ fA fS fU : VS, e = .returned (.tuple #[.agg #[.bool (sgB (axA (rvX a) (rvX b)).x.num), .slice fA.x.p.A fA.x.p.n fA.x.p.c, .slice fA.x.d.A fA.x.d.n fA.x.d.c, .bool (sgB (axA (rvX a) (rvX b)).y.num), .slice fA.y.p.A fA.y.p.n fA.y.p.c, .slice fA.y.d.A fA.y.d.n fA.y.d.c, .bool (sgB (axA (rvX a) (rvX b)).z.num), .slice fA.z.p.A fA.z.p.n fA.z.p.c, .slice fA.z.d.A fA.z.d.n fA.z.d.c, .bool (sgB (axS (rvX a)).x.num), .slice fS.x.p.A fS.x.p.n fS.x.p.c, .slice fS.x.d.A fS.x.d.n fS.x.d.c, .bool (sgB (axS (rvX a)).y.num), .slice fS.y.p.A fS.y.p.n fS.y.p.c, .slice fS.y.d.A fS.y.d.n fS.y.d.c, .bool (sgB (axS (rvX a)).z.num), .slice fS.z.p.A fS.z.p.n fS.z.p.c, .slice fS.z.d.A fS.z.d.n fS.z.d.c, .bool (sgB (axU (rvX a) (rvX b)).x.num), .slice fU.x.p.A fU.x.p.n fU.x.p.c, .slice fU.x.d.A fU.x.d.n fU.x.d.c, .bool (sgB (axU (rvX a) (rvX b)).y.num), .slice fU.y.p.A fU.y.p.n fU.y.p.c, .slice fU.y.d.A fU.y.d.n fU.y.d.c, .bool (sgB (axU (rvX a) (rvX b)).z.num), .slice fU.z.p.A fU.z.p.n fU.z.p.c, .slice fU.z.d.A fU.z.d.n fU.z.d.c], .int .i64 0]) ∧ RV w' fA (axA (rvX a) (rvX b)) ∧ RV w' fS (axS (rvX a)) ∧ RV w' fU (axU (rvX a) (rvX b)) ∧ Below w.heap.size w w' := by
  rw [Bool.and_eq_true] at hk
  have ho := inR_out (rvX a) (rvX b)
  rw [hk.2] at ho
  exact r16_FrameOf_ok a b w ha hb hk.1 ho
theorem acode_yes {v r : Bool} (h : (v && r) = true) : acode v r = 0 := by
  rw [Bool.and_eq_true] at h
  rw [h.1, h.2]
  rfl

theorem r16_CheckA (s : ByteArray × ByteArray) (w : World) (h1 : s.1.size ≤ 40) (h2 : s.2.size ≤ 40) :
    Calls Tryz.prog 56 #[.agg #[.string s.1, .string s.2]] w fun e w' => e = .returned (.int .i64 (acode (rvB s.1 && rvB s.2) (inR (rvX s.1) (rvX s.2)))) ∧ Below w.heap.size w w' := by
  have u1 := Nat.le_trans h1 (show 40 ≤ 100 by decide)
  have u2 := Nat.le_trans h2 (show 40 ≤ 100 by decide)
  cases hk : ((rvB s.1 && rvB s.2) && (inR (rvX s.1) (rvX s.2))) with
  | false => exact r16_Check_err s.1 s.2 _ w (fun w => r16_FrameOf_err s.1 s.2 w u1 u2 hk)
  | true =>
    rw [acode_yes hk]
    exact r16_Check_ok s.1 s.2 _ _ _ _ _ _ _ _ _ _ _ _ w (fun w => r16_FrameOf_yes s.1 s.2 w u1 u2 hk)

theorem r16_OfA (s : ByteArray × ByteArray) (w : World) (h1 : s.1.size ≤ 40) (h2 : s.2.size ≤ 40) :
    Calls Tryz.prog 51 #[.agg #[.string s.1, .string s.2]] w fun e w' => e = .returned (.tuple #[fres ((rvB s.1 && rvB s.2) && (inR (rvX s.1) (rvX s.2))) (rvX s.1) (rvX s.2), .int .i64 (acode (rvB s.1 && rvB s.2) (inR (rvX s.1) (rvX s.2)))]) ∧ Below w.heap.size w w' := by
  have u1 := Nat.le_trans h1 (show 40 ≤ 100 by decide)
  have u2 := Nat.le_trans h2 (show 40 ≤ 100 by decide)
  cases hk : ((rvB s.1 && rvB s.2) && (inR (rvX s.1) (rvX s.2))) with
  | false => exact r16_Of_err s.1 s.2 _ w (acode_ne hk) (fun w => r16_FrameOf_err s.1 s.2 w u1 u2 hk)
  | true =>
    rw [acode_yes hk]
    have z1 : Sz 41 (rvX s.1) := sz_rvX h1 (by decide)
    have z2 : Sz 41 (rvX s.2) := sz_rvX h2 (by decide)
    have zA := szV_axA z1 z2
    have zS := szV_axS z1 (show 1 ≤ 41 by decide)
    have zU := szV_axU z1 z2
    exact r16_Of_ok s.1 s.2 _ _ _ _ _ _ _ _ _ _ _ _ _ _ _ _ _ _ _ _ _ w (fun w => r16_FrameOf_yes s.1 s.2 w u1 u2 hk) (fun w f k => r16_Out _ f w k (zA.mono (by decide))) (fun w f k => r16_Out _ f w k (zS.mono (by decide))) (fun w f k => r16_Out _ f w k (zU.mono (by decide)))

theorem r16_FromW (d : ByteArray) (w : World) (h : d.size ≤ 1000000) : Calls Tryz.prog 43 #[.string d] w fun e w' => ∃ p q : Sl, e = .returned (.tuple #[qW (sgB (rvX d).num) p q, .bool (rvB d)]) ∧ Below w.heap.size w w' := by
  have k := r3_From d w h
  unfold FrP at k
  exact k.mono fun e w' ⟨p, q, e1, _, e2⟩ => ⟨p, q, e1, e2⟩
theorem r16_WaterA (s : ByteArray × ByteArray) (d : ByteArray) (w : World) (h1 : s.1.size ≤ 40) (h2 : s.2.size ≤ 40) (h3 : d.size ≤ 40) :
    Calls Tryz.prog 53 #[.agg #[.string s.1, .string s.2], .string d] w fun e w' => e = .returned (.tuple #[wres (((rvB s.1 && rvB s.2) && rvB d) && (inR (rvX s.1) (rvX s.2))) (axU (rvX s.1) (rvX s.2)) d, .int .i64 (acode ((rvB s.1 && rvB s.2) && rvB d) (inR (rvX s.1) (rvX s.2)))]) ∧ Below w.heap.size w w' := by
  have u1 := Nat.le_trans h1 (show 40 ≤ 100 by decide)
  have u2 := Nat.le_trans h2 (show 40 ≤ 100 by decide)
  have hD := fun w => r16_FromW d w (Nat.le_trans h3 (by decide))
  cases hd : rvB d with
  | false =>
    rw [hd] at hD
    rw [Bool.and_false]
    exact r16_Water_bad s.1 s.2 d _ w hD
  | true =>
    rw [hd] at hD
    rw [Bool.and_true]
    cases hk : ((rvB s.1 && rvB s.2) && (inR (rvX s.1) (rvX s.2))) with
    | false => exact r16_Water_err s.1 s.2 d _ _ w (acode_ne hk) hD (fun w => r16_FrameOf_err s.1 s.2 w u1 u2 hk)
    | true =>
      rw [acode_yes hk]
      have z1 : Sz 41 (rvX s.1) := sz_rvX h1 (by decide)
      have z2 : Sz 41 (rvX s.2) := sz_rvX h2 (by decide)
      have zA := szV_axA z1 z2
      have zS := szV_axS z1 (show 1 ≤ 41 by decide)
      have zU := szV_axU z1 z2
      exact r16_Water_ok s.1 s.2 d _ _ _ _ _ _ _ _ _ _ _ _ _ _ _ _ w hD (fun w => r16_FrameOf_yes s.1 s.2 w u1 u2 hk) (fun w f k => r16_Out _ f w k (zU.mono (by decide)))

theorem r16_TurnA (s : ByteArray × ByteArray) (r : ByteArray × ByteArray × ByteArray) (w : World) (h1 : s.1.size ≤ 40) (h2 : s.2.size ≤ 40) (h3 : r.1.size ≤ 40) (h4 : r.2.1.size ≤ 40) (h5 : r.2.2.size ≤ 40) :
    Calls Tryz.prog 57 #[.agg #[.string s.1, .string s.2], txW r] w fun e w' => e = .returned (.tuple #[vres (((rvB s.1 && rvB s.2) && vvB r) && (inR (rvX s.1) (rvX s.2))) (turnV (rvX s.1) (rvX s.2) (vvX r)), .int .i64 (acode ((rvB s.1 && rvB s.2) && vvB r) (inR (rvX s.1) (rvX s.2)))]) ∧ Below w.heap.size w w' := by
  have u1 := Nat.le_trans h1 (show 40 ≤ 100 by decide)
  have u2 := Nat.le_trans h2 (show 40 ≤ 100 by decide)
  have hV := fun w => r16_Vec r w ⟨Nat.le_trans h3 (by decide), Nat.le_trans h4 (by decide), Nat.le_trans h5 (by decide)⟩
  cases hr : vvB r with
  | false =>
    rw [hr] at hV
    rw [Bool.and_false]
    exact r16_Turn_bad s.1 s.2 r.1 r.2.1 r.2.2 _ _ _ _ w hV
  | true =>
    rw [hr] at hV
    rw [Bool.and_true]
    cases hk : ((rvB s.1 && rvB s.2) && (inR (rvX s.1) (rvX s.2))) with
    | false => exact r16_Turn_err s.1 s.2 r.1 r.2.1 r.2.2 _ _ _ _ _ w (acode_ne hk) hV (fun w => r16_FrameOf_err s.1 s.2 w u1 u2 hk)
    | true =>
      rw [acode_yes hk]
      have z1 : Sz 41 (rvX s.1) := sz_rvX h1 (by decide)
      have z2 : Sz 41 (rvX s.2) := sz_rvX h2 (by decide)
      have zA := szV_axA z1 z2
      have zS := szV_axS z1 (show 1 ≤ 41 by decide)
      have zU := szV_axU z1 z2
      have zr : SzV 41 (vvX r) := ⟨sz_rvX h3 (by decide), sz_rvX h4 (by decide), sz_rvX h5 (by decide)⟩
      have eT : turnW (axA (rvX s.1) (rvX s.2)) (axS (rvX s.1)) (axU (rvX s.1) (rvX s.2)) (vvX r) = turnV (rvX s.1) (rvX s.2) (vvX r) := rfl
      have hT := fun w fA fS fU u k1 k2 k3 k4 => r16_Turned (axA (rvX s.1) (rvX s.2)) (axS (rvX s.1)) (axU (rvX s.1) (rvX s.2)) (vvX r) fA fS fU u w k1 k2 k3 k4 (zA.mono (by decide)) (zS.mono (by decide)) (zU.mono (by decide)) (zr.mono (by decide))
      rw [eT] at hT
      exact r16_Turn_ok s.1 s.2 r.1 r.2.1 r.2.2 _ _ _ _ _ _ _ _ _ _ _ _ _ _ _ _ _ _ _ _ _ _ _ w hV (fun w => r16_FrameOf_yes s.1 s.2 w u1 u2 hk) hT (fun w f k => r16_Out _ f w k ((szV_turn z1 z2 zr (by decide)).mono (by decide)))

theorem r16_BackA (s : ByteArray × ByteArray) (r : ByteArray × ByteArray × ByteArray) (w : World) (h1 : s.1.size ≤ 40) (h2 : s.2.size ≤ 40) (h3 : r.1.size ≤ 40) (h4 : r.2.1.size ≤ 40) (h5 : r.2.2.size ≤ 40) :
    Calls Tryz.prog 59 #[.agg #[.string s.1, .string s.2], txW r] w fun e w' => e = .returned (.tuple #[vres (((rvB s.1 && rvB s.2) && vvB r) && (inR (rvX s.1) (rvX s.2))) (backV (rvX s.1) (rvX s.2) (vvX r)), .int .i64 (acode ((rvB s.1 && rvB s.2) && vvB r) (inR (rvX s.1) (rvX s.2)))]) ∧ Below w.heap.size w w' := by
  have u1 := Nat.le_trans h1 (show 40 ≤ 100 by decide)
  have u2 := Nat.le_trans h2 (show 40 ≤ 100 by decide)
  have hV := fun w => r16_Vec r w ⟨Nat.le_trans h3 (by decide), Nat.le_trans h4 (by decide), Nat.le_trans h5 (by decide)⟩
  cases hr : vvB r with
  | false =>
    rw [hr] at hV
    rw [Bool.and_false]
    exact r16_Back_bad s.1 s.2 r.1 r.2.1 r.2.2 _ _ _ _ w hV
  | true =>
    rw [hr] at hV
    rw [Bool.and_true]
    cases hk : ((rvB s.1 && rvB s.2) && (inR (rvX s.1) (rvX s.2))) with
    | false => exact r16_Back_err s.1 s.2 r.1 r.2.1 r.2.2 _ _ _ _ _ w (acode_ne hk) hV (fun w => r16_FrameOf_err s.1 s.2 w u1 u2 hk)
    | true =>
      rw [acode_yes hk]
      have z1 : Sz 41 (rvX s.1) := sz_rvX h1 (by decide)
      have z2 : Sz 41 (rvX s.2) := sz_rvX h2 (by decide)
      have zA := szV_axA z1 z2
      have zS := szV_axS z1 (show 1 ≤ 41 by decide)
      have zU := szV_axU z1 z2
      have zr : SzV 41 (vvX r) := ⟨sz_rvX h3 (by decide), sz_rvX h4 (by decide), sz_rvX h5 (by decide)⟩
      have eT : addV (addV (timesV (vvX r).x (axA (rvX s.1) (rvX s.2))) (timesV (vvX r).y (axS (rvX s.1)))) (timesV (vvX r).z (axU (rvX s.1) (rvX s.2))) = backV (rvX s.1) (rvX s.2) (vvX r) := by unfold backV; rw [timesV_eq, timesV_eq, timesV_eq]
      have hT := fun w fA fS fU u k1 k2 k3 k4 => r16_Returned (axA (rvX s.1) (rvX s.2)) (axS (rvX s.1)) (axU (rvX s.1) (rvX s.2)) (vvX r) fA fS fU u w k1 k2 k3 k4 (zA.mono (by decide)) (zS.mono (by decide)) (zU.mono (by decide)) (zr.mono (by decide))
      rw [eT] at hT
      exact r16_Back_ok s.1 s.2 r.1 r.2.1 r.2.2 _ _ _ _ _ _ _ _ _ _ _ _ _ _ _ _ _ _ _ _ _ _ _ w hV (fun w => r16_FrameOf_yes s.1 s.2 w u1 u2 hk) hT (fun w f k => r16_Out _ f w k ((szV_back z1 z2 zr).mono (by decide)))

/-- The mirrored attitude, or none. -/
def mres (ok : Bool) (p : Rat) (t : ByteArray) : Value := if ok = true then .agg #[.string (rs (-p)), .string t] else .agg #[.string ⟨#[]⟩, .string ⟨#[]⟩]
theorem r16_MirrorA (s : ByteArray × ByteArray) (w : World) (h1 : s.1.size ≤ 40) (h2 : s.2.size ≤ 40) :
    Calls Tryz.prog 54 #[.agg #[.string s.1, .string s.2]] w fun e w' => e = .returned (.tuple #[mres ((rvB s.1 && rvB s.2) && (inR (rvX s.1) (rvX s.2))) (rvX s.1) s.2, .int .i64 (acode (rvB s.1 && rvB s.2) (inR (rvX s.1) (rvX s.2)))]) ∧ Below w.heap.size w w' := by
  have hC := fun w => r16_CheckA s w h1 h2
  cases hk : ((rvB s.1 && rvB s.2) && (inR (rvX s.1) (rvX s.2))) with
  | false => exact r16_Mirror_err s.1 s.2 _ w (acode_ne hk) hC
  | true =>
    rw [acode_yes hk] at hC
    rw [acode_yes hk]
    have z1 : Sz 41 (rvX s.1) := sz_rvX h1 (by decide)
    exact r16_Mirror_ok s.1 s.2 _ _ _ _ _ w hC (fun w => r16_N s.1 w (Nat.le_trans h1 (by decide))) (fun w a c k => r16_Neg _ a c w k (z1.mono (by decide))) (fun w a c k => r3_To _ a c w k ((sz_neg z1).mono (by decide)))
theorem at_MirrorA (s : ByteArray × ByteArray) (w : World) (hE : Env w) (h1 : s.1.size ≤ 40) (h2 : s.2.size ≤ 40) :
    Calls Tryz.prog 42 #[.agg #[.string s.1, .string s.2]] w fun e w' => e = .returned (.tuple #[mres ((rvB s.1 && rvB s.2) && (inR (rvX s.1) (rvX s.2))) (rvX s.1) s.2, .int .i64 (acode (rvB s.1 && rvB s.2) (inR (rvX s.1) (rvX s.2)))]) ∧ Below w.heap.size w w' := by
  cases hk : ((rvB s.1 && rvB s.2) && (inR (rvX s.1) (rvX s.2))) with
  | false => exact at_Mirror_err _ _ _ w hE (acode_ne hk) (fun w hE => at_Check s w hE (Nat.le_trans h1 (by decide)) (Nat.le_trans h2 (by decide)))
  | true =>
    rw [acode_yes hk]
    exact at_MirrorX s w hE h1 h2 hk
theorem mres_is (k : Bool) (p : Rat) (t : ByteArray) : ∃ z0 z1, mres k p t = .agg #[.string z0, .string z1] := by
  cases k <;> exact ⟨_, _, rfl⟩
theorem wres_is (k : Bool) (u : V3) (d : ByteArray) : ∃ z0 z1 z2 z3, wres k u d = .agg #[.string z0, .string z1, .string z2, .string z3] := by
  cases k <;> exact ⟨_, _, _, _, rfl⟩
theorem vres_is (k : Bool) (u : V3) : ∃ z0 z1 z2, vres k u = .agg #[.string z0, .string z1, .string z2] := by
  cases k <;> exact ⟨_, _, _, rfl⟩
theorem fres_is (k : Bool) (p q : Rat) : ∃ z0 z1 z2 z3 z4 z5 z6 z7 z8, fres k p q = .agg #[.string z0, .string z1, .string z2, .string z3, .string z4, .string z5, .string z6, .string z7, .string z8] := by
  cases k <;> exact ⟨_, _, _, _, _, _, _, _, _, rfl⟩
end Go.Proofs.YtgbabmkclojgeaaGreatDoor
