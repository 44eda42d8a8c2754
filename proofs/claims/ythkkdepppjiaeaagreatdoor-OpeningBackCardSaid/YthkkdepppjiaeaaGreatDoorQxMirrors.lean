/- A PART OF THE PROOF, JOINED OUT OF 3 TEXTS. -/
import Derived.Test.YthkkdepppjiaeaaGreatDoorQwAttitude
import Derived.Test.YthkkdepppjiaeaaGreatDoorQoApart
import Derived.Test.YthkkdepppjiaeaaGreatDoorPnLaw
/- The reference of layer 16: N, Neg, ShortV; the program's Mirror. -/
namespace Go.Proofs.YthkkdepppjiaeaaGreatDoor
open Go.RowKit Go.Shelf Go.Sort

attribute [local go_sem] Oper.semAt_some

theorem rvX_0 : rvX ⟨#[48]⟩ = 0 := by rw [← rs_0, rvX_rs]


set_option maxRecDepth 100000 in
set_option maxHeartbeats 4000000 in
theorem r16_N (s : ByteArray) (w : World) (hs : s.size ≤ 1000000) :
    Calls Tryz.prog 114 #[.string s] w fun e w' => ∃ p d : Sl, e = .returned (qW (sgB (rvX s).num) p d) ∧ RQ w' p d (rvX s) ∧ Below w.heap.size w w' := by
  have H0 := Lib.hid (fun W => r3_From s W hs)
  unfold FrP at H0
  clear hs
  generalize rvB s = k at *
  generalize rvX s = x at *
  generalize sgB x.num = b at *
  go_enter Tryz.func114, Tryz.ntmps114
  go_upto_region 1 with fail
  generalize hW : World.alloc w _ = W
  obtain ⟨hB, hsz, R2⟩ := A1 hW
  have R2 := Lib.hid R2
  clear hW hsz
  go_wp2_with fail
  refine (H0.out _).mono ?_
  rintro e w1 ⟨p, d, rfl, h0, hb⟩
  replace hB := bstep hB hb
  have R2 := Lib.hid (keep hb R2.out)
  have K0 := Lib.hid h0
  clear h0
  clear hb
  go_upto_region 2 with fail
  generalize hW : World.alloc _ _ = V
  obtain ⟨hb, hsz, R3⟩ := A1 hW
  replace hB := bstep hB hb
  have R2 := Lib.hid (keep hb R2.out)
  have K0 := Lib.hid (K0.out.below hb)
  clear hb
  have R3 := Lib.hid R3
  clear hW hsz
  obtain ⟨a0, a1, a2⟩ := rowc3 R3.out
  obtain ⟨R2c0, R2c1, R2c2, R2f0, R2f1, R2f2⟩ := row3 R2.out
  go_wp2_with fail
  exact bodyPost_ret (res_c rfl q_row rfl (store3 R2.out _ _ _) rfl) rfl ⟨_, _, rfl, K0.out.store3 R2.out, store3_below hB (by omega) _ _ _⟩


set_option maxRecDepth 100000 in
set_option maxHeartbeats 4000000 in
theorem r16_Neg (x : Rat) (p d : Sl) (w : World) (h : RQ w p d x) (hx : Sz 1000000 x) :
    Calls Tryz.prog 116 #[qW (sgB x.num) p d] w fun e w' => ∃ a c : Sl, e = .returned (qW (sgB (-x).num) a c) ∧ RQ w' a c (-x) ∧ Below w.heap.size w w' := by
  have h0 := fun W => r16_N ⟨#[48]⟩ W (by decide)
  rw [rvX_0] at h0
  have H0 := Lib.hid h0
  have h1 := fun W (hb' : Below w.heap.size w W) p0 d0 (k0 : RQ W p0 d0 0) => r3_Sub 0 x p0 d0 p d W k0 (h.below hb') (sz_0 _ (by decide)) (hx.mono (by decide))
  rw [show (0 : Rat) - x = -x by grind] at h1
  have H1 := Lib.hid h1
  clear h0 h1 h hx
  generalize -x = z at *
  generalize sgB z.num = z0_ at *
  generalize sgB x.num = x0_ at *
  generalize sgB (0 : Rat).num = n0_ at *
  go_enter Tryz.func116, Tryz.ntmps116
  go_upto_region 1 with fail
  generalize hW : (World.alloc w _).alloc _ = W
  obtain ⟨hB, hsz, R1, R2⟩ := A2 hW
  have R1 := Lib.hid R1
  have R2 := Lib.hid R2
  clear hW hsz
  have LR1 := fun (w' : World) (h : Ap (w.heap.size + 1) (w.heap.size + 1) W w') => rowc3 (h.row R1.out (by omega) (by omega))
  have hvr := Below.refl W.heap.size W
  have hv0 := hvr.drew
  first
  | go_region_held3 (fun w' => Ap (w.heap.size + 1) (w.heap.size + 1) W w') (first | (with_reducible assumption) | (with_reducible exact Ap.refl _ _ _) | ((repeat (first | with_reducible assumption | with_reducible exact Ap.refl _ _ _ | with_reducible refine Ap.drew ?_ | with_reducible refine Ap.alloc ?_ | with_reducible refine Ap.set1 ?_ | with_reducible refine Ap.set2 ?_ | with_reducible refine Ap.setN (by first | with_reducible assumption | with_reducible exact Nat.le_refl _ | with_reducible exact Nat.le_add_right _ _ | with_reducible exact Nat.le_trans (by assumption) (Nat.le_add_right _ _)) ?_)); done))
      (first
        | (go_at_call 114; (with_reducible refine (H0.out _ ).mono ?_); rintro e wq0 ⟨p_0, d_0, rfl, hk_0, hb⟩; have hv1 : Below W.heap.size W wq0 := (by first | with_reducible exact bstep (hv0) hb); have hs1 := Ap.of_below (g := w.heap.size + 1) (h := w.heap.size + 1) hv1; have sz1 := hv1.size; have L0 := Lib.hid hk_0; clear hk_0; clear hb)
        | (go_at_call 23; (with_reducible refine (H1.out _ (bstep hB (by first | with_reducible exact hv1)) p_0 d_0 (by first | with_reducible exact L0.out | with_reducible exact L0.out.drewR)).mono ?_); rintro e wq1 ⟨p_1, d_1, rfl, hk_1, hb⟩; have hv2 : Below W.heap.size W wq1 := (by first | with_reducible exact bstep (hv1) hb); have hs2 := Ap.of_below (g := w.heap.size + 1) (h := w.heap.size + 1) hv2; have sz2 := hv2.size; have L0 := Lib.hid (by first | with_reducible exact L0.out.below hb | with_reducible exact L0.out.drewR.below hb); have L1 := Lib.hid hk_1; clear hk_1; have RoX := keep hv2 R2.out; obtain ⟨RoF0, RoF1, RoF2, RoF3, RoF4, RoF5⟩ := row3 RoX; clear hb))
  | fail
  all_goals
    go_wp2_with fail
    exact bodyPost_ret (res_c rfl q_row rfl (store3 RoX _ _ _) rfl) rfl ⟨_, _, rfl, L1.out.store3 RoX, store3_below (bstep hB hv2) (by omega) _ _ _⟩


set_option maxRecDepth 100000 in
set_option maxHeartbeats 4000000 in
theorem r16_ShortV (a b c : ByteArray) (w : World) (h1 : a.size ≤ 9223372036854775807) (h2 : b.size ≤ 9223372036854775807) (h3 : c.size ≤ 9223372036854775807) :
    Calls Tryz.prog 11 #[.agg #[.string a, .string b, .string c]] w fun e w' => e = .returned (.bool (decide (a.size ≤ 40) && (decide (b.size ≤ 40) && decide (c.size ≤ 40)))) ∧ Below w.heap.size w w' := by
  have H1 := Lib.hid (fun W => r16_Short a W h1)
  have H2 := Lib.hid (fun W => r16_Short b W h2)
  have H3 := Lib.hid (fun W => r16_Short c W h3)
  clear h1 h2 h3
  generalize decide (a.size ≤ 40) = b1 at *
  generalize decide (b.size ≤ 40) = b2 at *
  generalize decide (c.size ≤ 40) = b3 at *
  cases b1
  · go_enter Tryz.func11, Tryz.ntmps11
    go_wp2_with fail
    generalize hW : World.alloc w _ = W
    obtain ⟨hB, hsz, R1⟩ := A1 hW
    have R1 := Lib.hid R1
    clear hW hsz
    obtain ⟨R1c0, R1c1, R1c2, R1f0, R1f1, R1f2⟩ := row3 R1.out
    go_wp2_with fail
    clear R1c0 R1c1 R1c2 R1f0 R1f1 R1f2
    refine (H1.out _).mono ?_
    rintro e w1 ⟨rfl, hb⟩
    replace hB := bstep hB hb
    clear hb
    go_wp2_with fail
    go_ret
    exact ⟨rfl, hB⟩
  · cases b2
    · go_enter Tryz.func11, Tryz.ntmps11
      go_wp2_with fail
      generalize hW : World.alloc w _ = W
      obtain ⟨hB, hsz, R1⟩ := A1 hW
      have R1 := Lib.hid R1
      clear hW hsz
      obtain ⟨R1c0, R1c1, R1c2, R1f0, R1f1, R1f2⟩ := row3 R1.out
      go_wp2_with fail
      clear R1c0 R1c1 R1c2 R1f0 R1f1 R1f2
      refine (H1.out _).mono ?_
      rintro e w1 ⟨rfl, hb⟩
      replace hB := bstep hB hb
      have R1 := Lib.hid (keep hb R1.out)
      clear hb
      obtain ⟨R1c0, R1c1, R1c2, R1f0, R1f1, R1f2⟩ := row3 R1.out
      go_wp2_with fail
      clear R1c0 R1c1 R1c2 R1f0 R1f1 R1f2
      refine (H2.out _).mono ?_
      rintro e w2 ⟨rfl, hb⟩
      replace hB := bstep hB hb
      clear hb
      go_wp2_with fail
      go_ret
      exact ⟨rfl, hB⟩
    · go_enter Tryz.func11, Tryz.ntmps11
      go_wp2_with fail
      generalize hW : World.alloc w _ = W
      obtain ⟨hB, hsz, R1⟩ := A1 hW
      have R1 := Lib.hid R1
      clear hW hsz
      obtain ⟨R1c0, R1c1, R1c2, R1f0, R1f1, R1f2⟩ := row3 R1.out
      go_wp2_with fail
      clear R1c0 R1c1 R1c2 R1f0 R1f1 R1f2
      refine (H1.out _).mono ?_
      rintro e w1 ⟨rfl, hb⟩
      replace hB := bstep hB hb
      have R1 := Lib.hid (keep hb R1.out)
      clear hb
      obtain ⟨R1c0, R1c1, R1c2, R1f0, R1f1, R1f2⟩ := row3 R1.out
      go_wp2_with fail
      clear R1c0 R1c1 R1c2 R1f0 R1f1 R1f2
      refine (H2.out _).mono ?_
      rintro e w2 ⟨rfl, hb⟩
      replace hB := bstep hB hb
      have R1 := Lib.hid (keep hb R1.out)
      clear hb
      obtain ⟨R1c0, R1c1, R1c2, R1f0, R1f1, R1f2⟩ := row3 R1.out
      go_wp2_with fail
      clear R1c0 R1c1 R1c2 R1f0 R1f1 R1f2
      refine (H3.out _).mono ?_
      rintro e w3 ⟨rfl, hb⟩
      replace hB := bstep hB hb
      clear hb
      go_wp2_with fail
      go_ret
      exact ⟨rfl, hB⟩


end Go.Proofs.YthkkdepppjiaeaaGreatDoor

/- The law AttitudeMirrors. -/
namespace Go.Proofs.YthkkdepppjiaeaaGreatDoor
open Go.RowKit Go.Shelf Go.Sort

attribute [local go_sem] Oper.semAt_some vec_guard vec_eq


end Go.Proofs.YthkkdepppjiaeaaGreatDoor

/- The law AttitudeMirrors answers true at whatever strings. -/
namespace Go.Proofs.YthkkdepppjiaeaaGreatDoor
open Go.RowKit Go.Shelf Go.Sort

theorem at_pointB (s : ByteArray × ByteArray) (r : ByteArray × ByteArray × ByteArray) (w : World) (hE : Env w) (h1 : s.1.size ≤ 100) (h2 : s.2.size ≤ 100) (hr : ShV r) :
    Calls Tryz.prog 103 #[.agg #[.string s.1, .string s.2], txW r] w fun e w' => e = .returned (.int .i64 (acode ((rvB s.1 && rvB s.2) && vvB r) (inR (rvX s.1) (rvX s.2)))) ∧ Below w.heap.size w w' := by
  have h := at_point_aux s.1 s.2 r.1 r.2.1 r.2.2 (rvB s.1 && rvB s.2) (vvB r) (acode (rvB s.1 && rvB s.2) (inR (rvX s.1) (rvX s.2))) w hE (fun w hE => at_numbers s w hE (Nat.le_trans h1 (by decide)) (Nat.le_trans h2 (by decide)))
    (fun w hE => ve_Valid r.1 r.2.1 r.2.2 w hE hr.1 hr.2.1 hr.2.2) (fun w hE => at_Check s w hE (Nat.le_trans h1 (by decide)) (Nat.le_trans h2 (by decide)))
  have e : (if ((rvB s.1 && rvB s.2) && vvB r) = true then acode (rvB s.1 && rvB s.2) (inR (rvX s.1) (rvX s.2)) else 1) = acode ((rvB s.1 && rvB s.2) && vvB r) (inR (rvX s.1) (rvX s.2)) := by
    unfold acode
    cases (rvB s.1 && rvB s.2) <;> cases vvB r <;> rfl
  rwa [e] at h
theorem at_TurnB (s : ByteArray × ByteArray) (r : ByteArray × ByteArray × ByteArray) (w : World) (hE : Env w) (h1 : s.1.size ≤ 100) (h2 : s.2.size ≤ 100) (h3 : r.1.size ≤ 100) (h4 : r.2.1.size ≤ 100) (h5 : r.2.2.size ≤ 100) :
    Calls Tryz.prog 62 #[.agg #[.string s.1, .string s.2], txW r] w fun e w' => e = .returned (.tuple #[vres (((rvB s.1 && rvB s.2) && vvB r) && inR (rvX s.1) (rvX s.2)) (turnV (rvX s.1) (rvX s.2) (vvX r)), .int .i64 (acode ((rvB s.1 && rvB s.2) && vvB r) (inR (rvX s.1) (rvX s.2)))]) ∧ Below w.heap.size w w' := by
  have fw : ∀ {k : Nat}, k ≤ 100 → k ≤ 10000000 := fun h => Nat.le_trans h (by decide)
  have hP := fun w hE => at_pointB s r w hE h1 h2 ⟨fw h3, fw h4, fw h5⟩
  cases hk : (((rvB s.1 && rvB s.2) && vvB r) && inR (rvX s.1) (rvX s.2)) with
  | false => exact at_Turn_err _ _ _ _ _ _ w hE (acode_ne hk) hP
  | true =>
    rw [Bool.and_eq_true, Bool.and_eq_true] at hk
    obtain ⟨e1, e2⟩ := at_texts hk.1.1
    have er := vv_text hk.1.2
    have z1 : Sz 101 (rvX s.1) := sz_rvX h1 (by decide)
    have z2 : Sz 101 (rvX s.2) := sz_rvX h2 (by decide)
    have zr : SzV 101 (vvX r) := ⟨sz_rvX h3 (by decide), sz_rvX h4 (by decide), sz_rvX h5 (by decide)⟩
    have ec : acode ((rvB s.1 && rvB s.2) && vvB r) (inR (rvX s.1) (rvX s.2)) = 0 := by rw [hk.1.1, hk.1.2, hk.2]; rfl
    rw [ec] at hP ⊢
    have hA := fun w hE => at_axes (rvX s.1) (rvX s.2) w hE (z1.mono (by decide)) (z2.mono (by decide)) hk.2
    rw [← e1, ← e2] at hA
    have D0 := fun w hE => ve_Dot (axA (rvX s.1) (rvX s.2)) (vvX r) w hE ((szV_axA z1 z2).mono (by decide)) (zr.mono (by decide))
    have D1 := fun w hE => ve_Dot (axS (rvX s.1)) (vvX r) w hE ((szV_axS z1 (by decide)).mono (by decide)) (zr.mono (by decide))
    have D2 := fun w hE => ve_Dot (axU (rvX s.1) (rvX s.2)) (vvX r) w hE ((szV_axU z1 z2).mono (by decide)) (zr.mono (by decide))
    unfold vV at D0 D1 D2
    rw [← show r.1 = rs (vvX r).x from congrArg Prod.fst er, ← show r.2.1 = rs (vvX r).y from congrArg (fun q => q.2.1) er, ← show r.2.2 = rs (vvX r).z from congrArg (fun q => q.2.2) er] at D0 D1 D2
    exact at_Turn_ok _ _ _ _ _ _ _ _ _ _ _ _ _ _ _ _ _ w hE hP hA D0 D1 D2


theorem inR_neg {p q : Rat} (h : inR p q = true) : inR (-p) q = true := by
  unfold inR at h ⊢
  rw [Bool.and_eq_true, Bool.and_eq_true] at h ⊢
  refine ⟨⟨?_, h.1.2⟩, h.2⟩
  have k := h.1.1
  unfold wiQ at k ⊢
  rw [Bool.and_eq_true, Bool.not_eq_true', Bool.not_eq_true', decide_eq_false_iff_not, decide_eq_false_iff_not, cmpQ_neg, cmpQ_neg] at k ⊢
  exact ⟨by grind, by grind⟩
end Go.Proofs.YthkkdepppjiaeaaGreatDoor
