/- A PART OF THE PROOF, JOINED OUT OF 3 TEXTS. -/
import Derived.Test.YtgbabmkclojgeaaGreatDoorQwAttitude
import Derived.Test.YtgbabmkclojgeaaGreatDoorQoApart
import Derived.Test.YtgbabmkclojgeaaGreatDoorPnLaw
/- The reference of layer 16: N, Neg, ShortV; the program's Mirror. -/
namespace Go.Proofs.YtgbabmkclojgeaaGreatDoor
open Go.RowKit Go.Shelf Go.Sort

attribute [local go_sem] Oper.semAt_some

theorem att_row : RowTy Tryz.prog 24 2 := rowTy_struct Tryz.underlying24 (by kernel_rfl)
theorem rvX_0 : rvX ⟨#[48]⟩ = 0 := by rw [← rs_0, rvX_rs]


set_option maxRecDepth 100000 in
set_option maxHeartbeats 4000000 in
theorem r16_N (s : ByteArray) (w : World) (hs : s.size ≤ 1000000) :
    Calls Tryz.prog 114 #[.string s] w fun e w' => ∃ p d : Sl, e = .returned (qW (sgB (rvX s).num) p d) ∧ RQ w' p d (rvX s) ∧ Below w.heap.size w w' := by
  have H0 := Lib.hid (fun W => r3_From s W hs)
  unfold FrP at H0
  clear hs
  generalize rvB s = k at *
  generalize rvX s = x at *
  generalize sgB x.num = b at *
  go_enter Tryz.func114, Tryz.ntmps114
  go_upto_region 1 with fail
  generalize hW : World.alloc w _ = W
  obtain ⟨hB, hsz, R2⟩ := A1 hW
  have R2 := Lib.hid R2
  clear hW hsz
  go_wp2_with fail
  refine (H0.out _).mono ?_
  rintro e w1 ⟨p, d, rfl, h0, hb⟩
  replace hB := bstep hB hb
  have R2 := Lib.hid (keep hb R2.out)
  have K0 := Lib.hid h0
  clear h0
  clear hb
  go_upto_region 2 with fail
  generalize hW : World.alloc _ _ = V
  obtain ⟨hb, hsz, R3⟩ := A1 hW
  replace hB := bstep hB hb
  have R2 := Lib.hid (keep hb R2.out)
  have K0 := Lib.hid (K0.out.below hb)
  clear hb
  have R3 := Lib.hid R3
  clear hW hsz
  obtain ⟨a0, a1, a2⟩ := rowc3 R3.out
  obtain ⟨R2c0, R2c1, R2c2, R2f0, R2f1, R2f2⟩ := row3 R2.out
  go_wp2_with fail
  exact bodyPost_ret (res_c rfl q_row rfl (store3 R2.out _ _ _) rfl) rfl ⟨_, _, rfl, K0.out.store3 R2.out, store3_below hB (by omega) _ _ _⟩


set_option maxRecDepth 100000 in
set_option maxHeartbeats 4000000 in
theorem r16_Neg (x : Rat) (p d : Sl) (w : World) (h : RQ w p d x) (hx : Sz 1000000 x) :
    Calls Tryz.prog 45 #[qW (sgB x.num) p d] w fun e w' => ∃ a c : Sl, e = .returned (qW (sgB (-x).num) a c) ∧ RQ w' a c (-x) ∧ Below w.heap.size w w' := by
  have h0 := fun W => r16_N ⟨#[48]⟩ W (by decide)
  rw [rvX_0] at h0
  have H0 := Lib.hid h0
  have h1 := fun W (hb' : Below w.heap.size w W) p0 d0 (k0 : RQ W p0 d0 0) => r3_Sub 0 x p0 d0 p d W k0 (h.below hb') (sz_0 _ (by decide)) (hx.mono (by decide))
  rw [show (0 : Rat) - x = -x by grind] at h1
  have H1 := Lib.hid h1
  clear h0 h1 h hx
  generalize -x = z at *
  generalize sgB z.num = z0_ at *
  generalize sgB x.num = x0_ at *
  generalize sgB (0 : Rat).num = n0_ at *
  go_enter Tryz.func45, Tryz.ntmps45
  go_upto_region 1 with fail
  generalize hW : (World.alloc w _).alloc _ = W
  obtain ⟨hB, hsz, R1, R2⟩ := A2 hW
  have R1 := Lib.hid R1
  have R2 := Lib.hid R2
  clear hW hsz
  have LR1 := fun (w' : World) (h : Ap (w.heap.size + 1) (w.heap.size + 1) W w') => rowc3 (h.row R1.out (by omega) (by omega))
  have hvr := Below.refl W.heap.size W
  have hv0 := hvr.drew
  first
  | go_region_held3 (fun w' => Ap (w.heap.size + 1) (w.heap.size + 1) W w') (first | (with_reducible assumption) | (with_reducible exact Ap.refl _ _ _) | ((repeat (first | with_reducible assumption | with_reducible exact Ap.refl _ _ _ | with_reducible refine Ap.drew ?_ | with_reducible refine Ap.alloc ?_ | with_reducible refine Ap.set1 ?_ | with_reducible refine Ap.set2 ?_ | with_reducible refine Ap.setN (by first | with_reducible assumption | with_reducible exact Nat.le_refl _ | with_reducible exact Nat.le_add_right _ _ | with_reducible exact Nat.le_trans (by assumption) (Nat.le_add_right _ _)) ?_)); done))
      (first
        | (go_at_call 114; (with_reducible refine (H0.out _ ).mono ?_); rintro e wq0 ⟨p_0, d_0, rfl, hk_0, hb⟩; have hv1 : Below W.heap.size W wq0 := (by first | with_reducible exact bstep (hv0) hb); have hs1 := Ap.of_below (g := w.heap.size + 1) (h := w.heap.size + 1) hv1; have sz1 := hv1.size; have L0 := Lib.hid hk_0; clear hk_0; clear hb)
        | (go_at_call 113; (with_reducible refine (H1.out _ (bstep hB (by first | with_reducible exact hv1)) p_0 d_0 (by first | with_reducible exact L0.out | with_reducible exact L0.out.drewR)).mono ?_); rintro e wq1 ⟨p_1, d_1, rfl, hk_1, hb⟩; have hv2 : Below W.heap.size W wq1 := (by first | with_reducible exact bstep (hv1) hb); have hs2 := Ap.of_below (g := w.heap.size + 1) (h := w.heap.size + 1) hv2; have sz2 := hv2.size; have L0 := Lib.hid (by first | with_reducible exact L0.out.below hb | with_reducible exact L0.out.drewR.below hb); have L1 := Lib.hid hk_1; clear hk_1; have RoX := keep hv2 R2.out; obtain ⟨RoF0, RoF1, RoF2, RoF3, RoF4, RoF5⟩ := row3 RoX; clear hb))
  | fail
  all_goals
    go_wp2_with fail
    exact bodyPost_ret (res_c rfl q_row rfl (store3 RoX _ _ _) rfl) rfl ⟨_, _, rfl, L1.out.store3 RoX, store3_below (bstep hB hv2) (by omega) _ _ _⟩


set_option maxRecDepth 100000 in
set_option maxHeartbeats 4000000 in
theorem r16_ShortV (a b c : ByteArray) (w : World) (h1 : a.size ≤ 9223372036854775807) (h2 : b.size ≤ 9223372036854775807) (h3 : c.size ≤ 9223372036854775807) :
    Calls Tryz.prog 40 #[.agg #[.string a, .string b, .string c]] w fun e w' => e = .returned (.bool (decide (a.size ≤ 40) && (decide (b.size ≤ 40) && decide (c.size ≤ 40)))) ∧ Below w.heap.size w w' := by
  have H1 := Lib.hid (fun W => r16_Short a W h1)
  have H2 := Lib.hid (fun W => r16_Short b W h2)
  have H3 := Lib.hid (fun W => r16_Short c W h3)
  clear h1 h2 h3
  generalize decide (a.size ≤ 40) = b1 at *
  generalize decide (b.size ≤ 40) = b2 at *
  generalize decide (c.size ≤ 40) = b3 at *
  cases b1
  · go_enter Tryz.func40, Tryz.ntmps40
    go_wp2_with fail
    generalize hW : World.alloc w _ = W
    obtain ⟨hB, hsz, R1⟩ := A1 hW
    have R1 := Lib.hid R1
    clear hW hsz
    obtain ⟨R1c0, R1c1, R1c2, R1f0, R1f1, R1f2⟩ := row3 R1.out
    go_wp2_with fail
    clear R1c0 R1c1 R1c2 R1f0 R1f1 R1f2
    refine (H1.out _).mono ?_
    rintro e w1 ⟨rfl, hb⟩
    replace hB := bstep hB hb
    clear hb
    go_wp2_with fail
    go_ret
    exact ⟨rfl, hB⟩
  · cases b2
    · go_enter Tryz.func40, Tryz.ntmps40
      go_wp2_with fail
      generalize hW : World.alloc w _ = W
      obtain ⟨hB, hsz, R1⟩ := A1 hW
      have R1 := Lib.hid R1
      clear hW hsz
      obtain ⟨R1c0, R1c1, R1c2, R1f0, R1f1, R1f2⟩ := row3 R1.out
      go_wp2_with fail
      clear R1c0 R1c1 R1c2 R1f0 R1f1 R1f2
      refine (H1.out _).mono ?_
      rintro e w1 ⟨rfl, hb⟩
      replace hB := bstep hB hb
      have R1 := Lib.hid (keep hb R1.out)
      clear hb
      obtain ⟨R1c0, R1c1, R1c2, R1f0, R1f1, R1f2⟩ := row3 R1.out
      go_wp2_with fail
      clear R1c0 R1c1 R1c2 R1f0 R1f1 R1f2
      refine (H2.out _).mono ?_
      rintro e w2 ⟨rfl, hb⟩
      replace hB := bstep hB hb
      clear hb
      go_wp2_with fail
      go_ret
      exact ⟨rfl, hB⟩
    · go_enter Tryz.func40, Tryz.ntmps40
      go_wp2_with fail
      generalize hW : World.alloc w _ = W
      obtain ⟨hB, hsz, R1⟩ := A1 hW
      have R1 := Lib.hid R1
      clear hW hsz
      obtain ⟨R1c0, R1c1, R1c2, R1f0, R1f1, R1f2⟩ := row3 R1.out
      go_wp2_with fail
      clear R1c0 R1c1 R1c2 R1f0 R1f1 R1f2
      refine (H1.out _).mono ?_
      rintro e w1 ⟨rfl, hb⟩
      replace hB := bstep hB hb
      have R1 := Lib.hid (keep hb R1.out)
      clear hb
      obtain ⟨R1c0, R1c1, R1c2, R1f0, R1f1, R1f2⟩ := row3 R1.out
      go_wp2_with fail
      clear R1c0 R1c1 R1c2 R1f0 R1f1 R1f2
      refine (H2.out _).mono ?_
      rintro e w2 ⟨rfl, hb⟩
      replace hB := bstep hB hb
      have R1 := Lib.hid (keep hb R1.out)
      clear hb
      obtain ⟨R1c0, R1c1, R1c2, R1f0, R1f1, R1f2⟩ := row3 R1.out
      go_wp2_with fail
      clear R1c0 R1c1 R1c2 R1f0 R1f1 R1f2
      refine (H3.out _).mono ?_
      rintro e w3 ⟨rfl, hb⟩
      replace hB := bstep hB hb
      clear hb
      go_wp2_with fail
      go_ret
      exact ⟨rfl, hB⟩


set_option maxRecDepth 100000 in
set_option maxHeartbeats 4000000 in
theorem at_Mirror_err (h t : ByteArray) (cc : Int) (w : World) (hE : Env w) (hc1 : (cc != 0) = true)
    (h1 : ∀ w, Env w → Calls Tryz.prog 55 #[.agg #[.string h, .string t]] w fun e w' => e = .returned (.int .i64 cc) ∧ Below w.heap.size w w') :
    Calls Tryz.prog 42 #[.agg #[.string h, .string t]] w fun e w' => e = .returned (.tuple #[.agg #[.string ⟨#[]⟩, .string ⟨#[]⟩], .int .i64 cc]) ∧ Below w.heap.size w w' := by
  have H1 := Lib.hid h1
  have HE := Lib.hid hE
  clear hE h1
  go_enter Tryz.func42, Tryz.ntmps42
  go_wp2_with fail
  generalize hW : (World.alloc w _).alloc _ = W
  obtain ⟨hB, hsz, R1, R2⟩ := A2 hW
  have R1 := Lib.hid R1
  have R2 := Lib.hid R2
  clear hW hsz
  obtain ⟨c0, c1, f0, f1⟩ := row2 R1.out
  go_wp2_with fail
  clear c0 c1 f0 f1
  refine (H1.out _ (HE.out.below hB)).mono ?_
  rintro e w1 ⟨rfl, hb⟩
  replace hB := bstep hB hb
  have R2 := Lib.hid (keep hb R2.out)
  clear hb
  obtain ⟨c0, c1, f0, f1⟩ := row2 R2.out
  go_wp2_with fail
  exact bodyPost_ret (res_ct rfl att_row rfl (store2 R2.out _ _) rfl) rfl ⟨rfl, store2_below hB (by omega) _ _⟩


set_option maxRecDepth 100000 in
set_option maxHeartbeats 4000000 in
theorem at_Mirror_ok (h t m : ByteArray) (w : World) (hE : Env w)
    (h1 : ∀ w, Env w → Calls Tryz.prog 55 #[.agg #[.string h, .string t]] w fun e w' => e = .returned (.int .i64 0) ∧ Below w.heap.size w w')
    (h2 : ∀ w, Env w → Calls Tryz.prog 100 #[.string h] w fun e w' => e = .returned (.string m) ∧ Below w.heap.size w w') :
    Calls Tryz.prog 42 #[.agg #[.string h, .string t]] w fun e w' => e = .returned (.tuple #[.agg #[.string m, .string t], .int .i64 0]) ∧ Below w.heap.size w w' := by
  have H1 := Lib.hid h1
  have H2 := Lib.hid (fun W (hb' : Below w.heap.size w W) => h2 W (hE.below hb'))
  have HE := Lib.hid hE
  clear hE h1 h2
  go_enter Tryz.func42, Tryz.ntmps42
  go_wp2_with fail
  generalize hW : (World.alloc w _).alloc _ = W
  obtain ⟨hB, hsz, R1, R2⟩ := A2 hW
  have R1 := Lib.hid R1
  have R2 := Lib.hid R2
  clear hW hsz
  obtain ⟨c0, c1, f0, f1⟩ := row2 R1.out
  go_wp2_with fail
  clear c0 c1 f0 f1
  refine (H1.out _ (HE.out.below hB)).mono ?_
  rintro e w1 ⟨rfl, hb⟩
  replace hB := bstep hB hb
  have R1 := Lib.hid (keep hb R1.out)
  have R2 := Lib.hid (keep hb R2.out)
  clear hb
  go_wp2_with fail
  have LR1 := fun (w' : World) (h : Ap (w.heap.size + 1) (w.heap.size + 1) w1 w') => rowc2 (h.row R1.out (by omega) (by omega))
  have hvr := Below.refl w1.heap.size w1
  have hv0 := hvr.drew
  first
  | go_region_held3 (fun w' => Ap (w.heap.size + 1) (w.heap.size + 1) w1 w') (first | (with_reducible assumption) | (with_reducible exact Ap.refl _ _ _) | ((repeat (first | with_reducible assumption | with_reducible exact Ap.refl _ _ _ | with_reducible refine Ap.drew ?_ | with_reducible refine Ap.alloc ?_ | with_reducible refine Ap.set1 ?_ | with_reducible refine Ap.set2 ?_ | with_reducible refine Ap.setN (by first | with_reducible assumption | with_reducible exact Nat.le_refl _ | with_reducible exact Nat.le_add_right _ _ | with_reducible exact Nat.le_trans (by assumption) (Nat.le_add_right _ _)) ?_)); done))
      (first
        | (go_at_call 100; (with_reducible refine (H2.out _ (bstep hB (by first | with_reducible exact hv0))).mono ?_); rintro e wq0 ⟨rfl, hb⟩; have hv1 : Below w1.heap.size w1 wq0 := (by first | with_reducible exact bstep (hv0) hb); have hs1 := Ap.of_below (g := w.heap.size + 1) (h := w.heap.size + 1) hv1; have sz1 := hv1.size; have RoX := keep hv1 R2.out; obtain ⟨RoF0, RoF1, RoF2, RoF3⟩ := row2 RoX; clear hb))
  | fail
  all_goals
    go_wp2_with fail
    exact bodyPost_ret (res_ct rfl att_row rfl (store2 RoX _ _) rfl) rfl ⟨rfl, store2_below (bstep hB hv1) (by omega) _ _⟩
end Go.Proofs.YtgbabmkclojgeaaGreatDoor

/- The law AttitudeMirrors. -/
namespace Go.Proofs.YtgbabmkclojgeaaGreatDoor
open Go.RowKit Go.Shelf Go.Sort

attribute [local go_sem] Oper.semAt_some vec_guard vec_eq


set_option maxRecDepth 100000 in
set_option maxHeartbeats 4000000 in
theorem la16_mir_long (h t r0 r1 r2 : ByteArray) (b1 b2 : Bool) (w : World) (hE : Env w) (hb12 : (b1 && b2) = false)
    (hs : ∀ w, Env w → Calls Tryz.prog 14 #[.agg #[.string h, .string t]] w fun e w' => e = .returned (.bool b1) ∧ Below w.heap.size w w')
    (ht : ∀ w, Env w → Calls Tryz.prog 40 #[.agg #[.string r0, .string r1, .string r2]] w fun e w' => e = .returned (.bool b2) ∧ Below w.heap.size w w') :
    Calls Tryz.prog 6 #[.agg #[.string h, .string t], .agg #[.string r0, .string r1, .string r2]] w fun e w' => e = .returned (.bool true) ∧ Below w.heap.size w w' := by
  cases b1
  · clear hb12
    have H0 := Lib.hid (fun w hE => la16_awake w hE)
    have HS := Lib.hid hs
    have HT := Lib.hid ht
    have HE := Lib.hid hE
    clear hE hs ht 
    go_enter Tryz.func6, Tryz.ntmps6
    go_wp2_with fail
    generalize hW : (World.alloc w _).alloc _ = W
    obtain ⟨hB, hsz, RA, RB⟩ := A2 hW
    have RA := Lib.hid RA
    have RB := Lib.hid RB
    clear hW hsz
    refine (H0.out _ (HE.out.below hB)).mono ?_
    rintro e w1 ⟨rfl, hb⟩
    replace hB := bstep hB hb
    have RA := Lib.hid (keep hb RA.out)
    have RB := Lib.hid (keep hb RB.out)
    clear hb
    obtain ⟨c0, c1, f0, f1⟩ := row2 RA.out
    go_wp2_with fail
    clear c0 c1 f0 f1
    refine (HS.out _ (HE.out.below hB)).mono ?_
    rintro e w2 ⟨rfl, hb⟩
    replace hB := bstep hB hb
    have RA := Lib.hid (keep hb RA.out)
    have RB := Lib.hid (keep hb RB.out)
    clear hb
    go_wp2_with fail
    go_ret
    exact ⟨rfl, hB⟩
  · cases b2
    · clear hb12
      have H0 := Lib.hid (fun w hE => la16_awake w hE)
      have HS := Lib.hid hs
      have HT := Lib.hid ht
      have HE := Lib.hid hE
      clear hE hs ht 
      go_enter Tryz.func6, Tryz.ntmps6
      go_wp2_with fail
      generalize hW : (World.alloc w _).alloc _ = W
      obtain ⟨hB, hsz, RA, RB⟩ := A2 hW
      have RA := Lib.hid RA
      have RB := Lib.hid RB
      clear hW hsz
      refine (H0.out _ (HE.out.below hB)).mono ?_
      rintro e w1 ⟨rfl, hb⟩
      replace hB := bstep hB hb
      have RA := Lib.hid (keep hb RA.out)
      have RB := Lib.hid (keep hb RB.out)
      clear hb
      obtain ⟨c0, c1, f0, f1⟩ := row2 RA.out
      go_wp2_with fail
      clear c0 c1 f0 f1
      refine (HS.out _ (HE.out.below hB)).mono ?_
      rintro e w2 ⟨rfl, hb⟩
      replace hB := bstep hB hb
      have RA := Lib.hid (keep hb RA.out)
      have RB := Lib.hid (keep hb RB.out)
      clear hb
      obtain ⟨RBc0, RBc1, RBc2, RBf0, RBf1, RBf2⟩ := row3 RB.out
      go_wp2_with fail
      clear RBc0 RBc1 RBc2 RBf0 RBf1 RBf2
      refine (HT.out _ (HE.out.below hB)).mono ?_
      rintro e w3 ⟨rfl, hb⟩
      replace hB := bstep hB hb
      have RA := Lib.hid (keep hb RA.out)
      have RB := Lib.hid (keep hb RB.out)
      clear hb
      go_wp2_with fail
      go_ret
      exact ⟨rfl, hB⟩
    · exact absurd hb12 (by decide)


set_option maxRecDepth 100000 in
set_option maxHeartbeats 4000000 in
theorem la16_mir_bad (h t r0 r1 r2 v0 v1 v2 m0 m1 : ByteArray) (cc c2 : Int) (w : World) (hE : Env w) (hc1 : (cc != 0) = true)
    (hs : ∀ w, Env w → Calls Tryz.prog 14 #[.agg #[.string h, .string t]] w fun e w' => e = .returned (.bool true) ∧ Below w.heap.size w w')
    (ht : ∀ w, Env w → Calls Tryz.prog 40 #[.agg #[.string r0, .string r1, .string r2]] w fun e w' => e = .returned (.bool true) ∧ Below w.heap.size w w')
    (h1 : ∀ w, Env w → Calls Tryz.prog 41 #[.agg #[.string h, .string t], .agg #[.string r0, .string r1, .string r2]] w fun e w' => e = .returned (.tuple #[.agg #[.string v0, .string v1, .string v2], .int .i64 cc]) ∧ Below w.heap.size w w')
    (h2 : ∀ w, Env w → Calls Tryz.prog 42 #[.agg #[.string h, .string t]] w fun e w' => e = .returned (.tuple #[.agg #[.string m0, .string m1], .int .i64 c2]) ∧ Below w.heap.size w w') :
    Calls Tryz.prog 6 #[.agg #[.string h, .string t], .agg #[.string r0, .string r1, .string r2]] w fun e w' => e = .returned (.bool true) ∧ Below w.heap.size w w' := by
  have H0 := Lib.hid (fun w hE => la16_awake w hE)
  have HS := Lib.hid hs
  have HT := Lib.hid ht
  have H1 := Lib.hid h1
  have H2 := Lib.hid h2
  have HE := Lib.hid hE
  clear hE hs ht h1 h2
  go_enter Tryz.func6, Tryz.ntmps6
  go_wp2_with fail
  generalize hW : (World.alloc w _).alloc _ = W
  obtain ⟨hB, hsz, RA, RB⟩ := A2 hW
  have RA := Lib.hid RA
  have RB := Lib.hid RB
  clear hW hsz
  refine (H0.out _ (HE.out.below hB)).mono ?_
  rintro e w1 ⟨rfl, hb⟩
  replace hB := bstep hB hb
  have RA := Lib.hid (keep hb RA.out)
  have RB := Lib.hid (keep hb RB.out)
  clear hb
  obtain ⟨c0, c1, f0, f1⟩ := row2 RA.out
  go_wp2_with fail
  clear c0 c1 f0 f1
  refine (HS.out _ (HE.out.below hB)).mono ?_
  rintro e w2 ⟨rfl, hb⟩
  replace hB := bstep hB hb
  have RA := Lib.hid (keep hb RA.out)
  have RB := Lib.hid (keep hb RB.out)
  clear hb
  obtain ⟨RBc0, RBc1, RBc2, RBf0, RBf1, RBf2⟩ := row3 RB.out
  go_wp2_with fail
  clear RBc0 RBc1 RBc2 RBf0 RBf1 RBf2
  refine (HT.out _ (HE.out.below hB)).mono ?_
  rintro e w3 ⟨rfl, hb⟩
  replace hB := bstep hB hb
  have RA := Lib.hid (keep hb RA.out)
  have RB := Lib.hid (keep hb RB.out)
  clear hb
  obtain ⟨c0, c1, f0, f1⟩ := row2 RA.out
  obtain ⟨RBc0, RBc1, RBc2, RBf0, RBf1, RBf2⟩ := row3 RB.out
  have l1 := lp2 RA.out
  have l2 := lp2 RB.out
  go_wp2_with fail
  clear c0 c1 f0 f1 l1 l2
  clear RBc0 RBc1 RBc2 RBf0 RBf1 RBf2
  refine (H1.out _ (HE.out.below hB)).mono ?_
  rintro e w4 ⟨rfl, hb⟩
  replace hB := bstep hB hb
  have RA := Lib.hid (keep hb RA.out)
  have RB := Lib.hid (keep hb RB.out)
  clear hb
  have nV := Lib.hid (show w4.heap.size ≠ w.heap.size + 1 by have := lt_of_row RB.out; omega)
  obtain ⟨c0, c1, f0, f1⟩ := row2 RA.out
  have l1 := lp2 RA.out
  go_wp2_with fail
  clear c0 c1 f0 f1 l1
  generalize hW : World.alloc _ _ = V4
  obtain ⟨hb, hsz, RV⟩ := A1 hW
  replace hB := bstep hB hb
  have RA := Lib.hid (keep hb RA.out)
  have RB := Lib.hid (keep hb RB.out)
  clear hb
  have RV := Lib.hid RV
  clear hW hsz
  refine (H2.out _ (HE.out.below hB)).mono ?_
  rintro e w5 ⟨rfl, hb⟩
  replace hB := bstep hB hb
  have RA := Lib.hid (keep hb RA.out)
  have RB := Lib.hid (keep hb RB.out)
  have RV := Lib.hid (keep hb RV.out)
  clear hb
  go_wp2_with fail
  go_ret
  exact ⟨rfl, bstep hB (A1 rfl).1⟩


set_option maxRecDepth 100000 in
set_option maxHeartbeats 4000000 in
theorem la16_mir_ok (h t r0 r1 r2 v0 v1 v2 m y' v1' : ByteArray) (y ny sd nsd : Rat) (b1 b2 b3 b4 : Bool) (w : World) (hE : Env w)
    (hs : ∀ w, Env w → Calls Tryz.prog 14 #[.agg #[.string h, .string t]] w fun e w' => e = .returned (.bool true) ∧ Below w.heap.size w w')
    (ht : ∀ w, Env w → Calls Tryz.prog 40 #[.agg #[.string r0, .string r1, .string r2]] w fun e w' => e = .returned (.bool true) ∧ Below w.heap.size w w')
    (h1 : ∀ w, Env w → Calls Tryz.prog 41 #[.agg #[.string h, .string t], .agg #[.string r0, .string r1, .string r2]] w fun e w' => e = .returned (.tuple #[.agg #[.string v0, .string v1, .string v2], .int .i64 0]) ∧ Below w.heap.size w w')
    (h2 : ∀ w, Env w → Calls Tryz.prog 42 #[.agg #[.string h, .string t]] w fun e w' => e = .returned (.tuple #[.agg #[.string m, .string t], .int .i64 0]) ∧ Below w.heap.size w w')
    (h3 : ∀ w : World, Calls Tryz.prog 43 #[.string r1] w fun e w' => ∃ p d : Sl, e = .returned (.tuple #[qW b1 p d, .bool true]) ∧ RQ w' p d y ∧ Below w.heap.size w w')
    (h4 : ∀ w p d, RQ w p d y → Calls Tryz.prog 45 #[qW b1 p d] w fun e w' => ∃ a c : Sl, e = .returned (qW b2 a c) ∧ RQ w' a c ny ∧ Below w.heap.size w w')
    (h5 : ∀ w p d, RQ w p d ny → Calls Tryz.prog 44 #[qW b2 p d] w fun e w' => e = .returned (.string y') ∧ Below w.heap.size w w')
    (h6 : ∀ w, Env w → Calls Tryz.prog 41 #[.agg #[.string m, .string t], .agg #[.string r0, .string y', .string r2]] w fun e w' => e = .returned (.tuple #[.agg #[.string v0, .string v1', .string v2], .int .i64 0]) ∧ Below w.heap.size w w')
    (h7 : ∀ w : World, Calls Tryz.prog 43 #[.string v1] w fun e w' => ∃ p d : Sl, e = .returned (.tuple #[qW b3 p d, .bool true]) ∧ RQ w' p d sd ∧ Below w.heap.size w w')
    (h8 : ∀ w p d, RQ w p d sd → Calls Tryz.prog 45 #[qW b3 p d] w fun e w' => ∃ a c : Sl, e = .returned (qW b4 a c) ∧ RQ w' a c nsd ∧ Below w.heap.size w w')
    (h9 : ∀ w p d, RQ w p d nsd → Calls Tryz.prog 44 #[qW b4 p d] w fun e w' => e = .returned (.string v1') ∧ Below w.heap.size w w') :
    Calls Tryz.prog 6 #[.agg #[.string h, .string t], .agg #[.string r0, .string r1, .string r2]] w fun e w' => e = .returned (.bool true) ∧ Below w.heap.size w w' := by
  have H0 := Lib.hid (fun w hE => la16_awake w hE)
  have HS := Lib.hid hs
  have HT := Lib.hid ht
  have H1 := Lib.hid h1
  have H2 := Lib.hid h2
  have H3 := Lib.hid h3
  have H4 := Lib.hid h4
  have H5 := Lib.hid h5
  have H6 := Lib.hid h6
  have H7 := Lib.hid h7
  have H8 := Lib.hid h8
  have H9 := Lib.hid h9
  have HE := Lib.hid hE
  clear hE hs ht h1 h2 h3 h4 h5 h6 h7 h8 h9
  go_enter Tryz.func6, Tryz.ntmps6
  go_wp2_with fail
  generalize hW : (World.alloc w _).alloc _ = W
  obtain ⟨hB, hsz, RA, RB⟩ := A2 hW
  have RA := Lib.hid RA
  have RB := Lib.hid RB
  clear hW hsz
  refine (H0.out _ (HE.out.below hB)).mono ?_
  rintro e w1 ⟨rfl, hb⟩
  replace hB := bstep hB hb
  have RA := Lib.hid (keep hb RA.out)
  have RB := Lib.hid (keep hb RB.out)
  clear hb
  obtain ⟨c0, c1, f0, f1⟩ := row2 RA.out
  go_wp2_with fail
  clear c0 c1 f0 f1
  refine (HS.out _ (HE.out.below hB)).mono ?_
  rintro e w2 ⟨rfl, hb⟩
  replace hB := bstep hB hb
  have RA := Lib.hid (keep hb RA.out)
  have RB := Lib.hid (keep hb RB.out)
  clear hb
  obtain ⟨RBc0, RBc1, RBc2, RBf0, RBf1, RBf2⟩ := row3 RB.out
  go_wp2_with fail
  clear RBc0 RBc1 RBc2 RBf0 RBf1 RBf2
  refine (HT.out _ (HE.out.below hB)).mono ?_
  rintro e w3 ⟨rfl, hb⟩
  replace hB := bstep hB hb
  have RA := Lib.hid (keep hb RA.out)
  have RB := Lib.hid (keep hb RB.out)
  clear hb
  obtain ⟨c0, c1, f0, f1⟩ := row2 RA.out
  obtain ⟨RBc0, RBc1, RBc2, RBf0, RBf1, RBf2⟩ := row3 RB.out
  have l1 := lp2 RA.out
  have l2 := lp2 RB.out
  go_wp2_with fail
  clear c0 c1 f0 f1 l1 l2
  clear RBc0 RBc1 RBc2 RBf0 RBf1 RBf2
  refine (H1.out _ (HE.out.below hB)).mono ?_
  rintro e w4 ⟨rfl, hb⟩
  replace hB := bstep hB hb
  have RA := Lib.hid (keep hb RA.out)
  have RB := Lib.hid (keep hb RB.out)
  clear hb
  have nV := Lib.hid (show w4.heap.size ≠ w.heap.size + 1 by have := lt_of_row RB.out; omega)
  obtain ⟨c0, c1, f0, f1⟩ := row2 RA.out
  have l1 := lp2 RA.out
  go_wp2_with fail
  clear c0 c1 f0 f1 l1
  generalize hW : World.alloc _ _ = V4
  obtain ⟨hb, hsz, RV⟩ := A1 hW
  replace hB := bstep hB hb
  have RA := Lib.hid (keep hb RA.out)
  have RB := Lib.hid (keep hb RB.out)
  clear hb
  have RV := Lib.hid RV
  clear hW hsz
  refine (H2.out _ (HE.out.below hB)).mono ?_
  rintro e w5 ⟨rfl, hb⟩
  replace hB := bstep hB hb
  have RA := Lib.hid (keep hb RA.out)
  have RB := Lib.hid (keep hb RB.out)
  have RV := Lib.hid (keep hb RV.out)
  clear hb
  go_upto_region 7 with fail
  have nM := Lib.hid (show w5.heap.size ≠ w.heap.size + 1 by have := lt_of_row RB.out; omega)
  generalize hW : World.alloc _ _ = V5
  obtain ⟨hb, hsz, RM⟩ := A1 hW
  replace hB := bstep hB hb
  have RA := Lib.hid (keep hb RA.out)
  have RB := Lib.hid (keep hb RB.out)
  have RV := Lib.hid (keep hb RV.out)
  clear hb
  have RM := Lib.hid RM
  clear hW hsz
  obtain ⟨RBc0, RBc1, RBc2, RBf0, RBf1, RBf2⟩ := row3 RB.out
  have l2 := lp2 RB.out
  go_wp2_with fail
  clear l2
  clear RBc0 RBc1 RBc2 RBf0 RBf1 RBf2
  refine (H3.out _).mono ?_
  rintro e w6 ⟨p3, d3, rfl, h3, hb⟩
  replace hB := bstep hB hb
  have RA := Lib.hid (keep hb RA.out)
  have RB := Lib.hid (keep hb RB.out)
  have RV := Lib.hid (keep hb RV.out)
  have RM := Lib.hid (keep hb RM.out)
  have K3 := Lib.hid h3
  clear h3
  clear hb
  go_upto_region 10 with fail
  generalize hW : World.alloc _ _ = V6
  obtain ⟨hb, hsz, RY⟩ := A1 hW
  replace hB := bstep hB hb
  have RB := Lib.hid (keep hb RB.out)
  have RV := Lib.hid (keep hb RV.out)
  have RM := Lib.hid (keep hb RM.out)
  have K3 := Lib.hid (K3.out.below hb)
  clear hb
  have RY := Lib.hid RY
  clear hW hsz
  obtain ⟨RYc0, RYc1, RYc2, RYf0, RYf1, RYf2⟩ := row3 RY.out
  go_wp2_with fail
  clear RYc0 RYc1 RYc2 RYf0 RYf1 RYf2
  refine (H4.out _ _ _ K3.out).mono ?_
  rintro e w7 ⟨p4, d4, rfl, h4, hb⟩
  replace hB := bstep hB hb
  have RB := Lib.hid (keep hb RB.out)
  have RV := Lib.hid (keep hb RV.out)
  have RM := Lib.hid (keep hb RM.out)
  have K4 := Lib.hid h4
  clear h4
  clear hb
  go_wp2_with fail
  refine (H5.out _ _ _ K4.out).mono ?_
  rintro e w8 ⟨rfl, hb⟩
  replace hB := bstep hB hb
  have RB := Lib.hid (keep hb RB.out)
  have RV := Lib.hid (keep hb RV.out)
  have RM := Lib.hid (keep hb RM.out)
  clear hb
  obtain ⟨q0, q1, q2, q3, q4, q5⟩ := row3 RB.out
  go_upto_region 11 with fail
  clear q0 q1 q2 q3 q4 q5
  have hB := set_below hB (show w.heap.size ≤ w.heap.size + 1 by omega) (i := 1) (x := .string y')
  have RV := Lib.hid (set_other nV.out RV.out (i := 1) (x := .string y'))
  have RM := Lib.hid (set_other nM.out RM.out (i := 1) (x := .string y'))
  have RB := Lib.hid (set3_1 RB.out (x := .string y'))
  generalize w8.setCell ⟨w.heap.size + 1, 1, none⟩ (.string y') = X at *
  obtain ⟨c0, c1, f0, f1⟩ := row2 RM.out
  obtain ⟨RBc0, RBc1, RBc2, RBf0, RBf1, RBf2⟩ := row3 RB.out
  go_wp2_with fail
  clear c0 c1 f0 f1
  clear RBc0 RBc1 RBc2 RBf0 RBf1 RBf2
  refine (H6.out _ (HE.out.below hB)).mono ?_
  rintro e w9 ⟨rfl, hb⟩
  replace hB := bstep hB hb
  have RV := Lib.hid (keep hb RV.out)
  clear hb
  go_upto_region 12 with fail
  generalize hW : World.alloc _ _ = V8
  obtain ⟨hb, hsz, RW⟩ := A1 hW
  replace hB := bstep hB hb
  have RV := Lib.hid (keep hb RV.out)
  clear hb
  have RW := Lib.hid RW
  clear hW hsz
  obtain ⟨RVc0, RVc1, RVc2, RVf0, RVf1, RVf2⟩ := row3 RV.out
  go_wp2_with fail
  clear RVc0 RVc1 RVc2 RVf0 RVf1 RVf2
  refine (H7.out _).mono ?_
  rintro e wA ⟨p7, d7, rfl, h7, hb⟩
  replace hB := bstep hB hb
  have RV := Lib.hid (keep hb RV.out)
  have RW := Lib.hid (keep hb RW.out)
  have K7 := Lib.hid h7
  clear h7
  clear hb
  go_upto_region 13 with fail
  generalize hW : World.alloc _ _ = V9
  obtain ⟨hb, hsz, RS⟩ := A1 hW
  replace hB := bstep hB hb
  have RV := Lib.hid (keep hb RV.out)
  have RW := Lib.hid (keep hb RW.out)
  have K7 := Lib.hid (K7.out.below hb)
  clear hb
  have RS := Lib.hid RS
  clear hW hsz
  have LRW := fun (w' : World) (h : Ap V9.heap.size V9.heap.size V9 w') => rowc3 (h.rowV RW.out)
  have LRV := fun (w' : World) (h : Ap V9.heap.size V9.heap.size V9 w') => rowc3 (h.rowV RV.out)
  have LRS := fun (w' : World) (h : Ap V9.heap.size V9.heap.size V9 w') => rowc3 (h.rowV RS.out)
  have hvr := Below.refl V9.heap.size V9
  have hv0 := hvr.drew
  first
  | go_region_held3 (fun w' => Ap V9.heap.size V9.heap.size V9 w') (first | (with_reducible assumption) | (with_reducible exact Ap.refl _ _ _) | ((repeat (first | with_reducible assumption | with_reducible exact Ap.refl _ _ _ | with_reducible refine Ap.drew ?_ | with_reducible refine Ap.alloc ?_ | with_reducible refine Ap.set1 ?_ | with_reducible refine Ap.set2 ?_ | with_reducible refine Ap.setN (by first | with_reducible assumption | with_reducible exact Nat.le_refl _ | with_reducible exact Nat.le_add_right _ _ | with_reducible exact Nat.le_trans (by assumption) (Nat.le_add_right _ _)) ?_)); done))
      (first
        | (go_at_call 45; (with_reducible refine (H8.out _  p7 d7 (by first | with_reducible exact K7.out | with_reducible exact (K7.out.below (Below.drew (Below.refl _ _))))).mono ?_); rintro e wq0 ⟨p_0, d_0, rfl, hk_0, hb⟩; have hv1 : Below V9.heap.size V9 wq0 := (by first | with_reducible exact bstep (hv0) hb); have hs1 := Ap.of_below (g := V9.heap.size) (h := V9.heap.size) hv1; have sz1 := hv1.size; have K7 := Lib.hid (by first | with_reducible exact K7.out.below hb | with_reducible exact (K7.out.below (Below.drew (Below.refl _ _))).below hb); have L0 := Lib.hid hk_0; clear hk_0; clear hb)
        | (go_at_call 44; (with_reducible refine (H9.out _  p_0 d_0 (by first | with_reducible exact L0.out | with_reducible exact (L0.out.below (Below.drew (Below.refl _ _))))).mono ?_); rintro e wq1 ⟨rfl, hb⟩; have hv2 : Below V9.heap.size V9 wq1 := (by first | with_reducible exact bstep (hv1) hb); have hs2 := Ap.of_below (g := V9.heap.size) (h := V9.heap.size) hv2; have sz2 := hv2.size; have K7 := Lib.hid (by first | with_reducible exact K7.out.below hb | with_reducible exact (K7.out.below (Below.drew (Below.refl _ _))).below hb); have L0 := Lib.hid (by first | with_reducible exact L0.out.below hb | with_reducible exact (L0.out.below (Below.drew (Below.refl _ _))).below hb); clear hb))
  | fail
  all_goals
    go_wp2_with fail
    go_ret
    exact ⟨rfl, bstep hB hv2⟩

end Go.Proofs.YtgbabmkclojgeaaGreatDoor

/- The law AttitudeMirrors answers true at whatever strings. -/
namespace Go.Proofs.YtgbabmkclojgeaaGreatDoor
open Go.RowKit Go.Shelf Go.Sort

theorem at_pointB (s : ByteArray × ByteArray) (r : ByteArray × ByteArray × ByteArray) (w : World) (hE : Env w) (h1 : s.1.size ≤ 100) (h2 : s.2.size ≤ 100) (hr : ShV r) :
    Calls Tryz.prog 98 #[.agg #[.string s.1, .string s.2], txW r] w fun e w' => e = .returned (.int .i64 (acode ((rvB s.1 && rvB s.2) && vvB r) (inR (rvX s.1) (rvX s.2)))) ∧ Below w.heap.size w w' := by
  have h := at_point_aux s.1 s.2 r.1 r.2.1 r.2.2 (rvB s.1 && rvB s.2) (vvB r) (acode (rvB s.1 && rvB s.2) (inR (rvX s.1) (rvX s.2))) w hE (fun w hE => at_numbers s w hE (Nat.le_trans h1 (by decide)) (Nat.le_trans h2 (by decide)))
    (fun w hE => ve_Valid r.1 r.2.1 r.2.2 w hE hr.1 hr.2.1 hr.2.2) (fun w hE => at_Check s w hE (Nat.le_trans h1 (by decide)) (Nat.le_trans h2 (by decide)))
  have e : (if ((rvB s.1 && rvB s.2) && vvB r) = true then acode (rvB s.1 && rvB s.2) (inR (rvX s.1) (rvX s.2)) else 1) = acode ((rvB s.1 && rvB s.2) && vvB r) (inR (rvX s.1) (rvX s.2)) := by
    unfold acode
    cases (rvB s.1 && rvB s.2) <;> cases vvB r <;> rfl
  rwa [e] at h
theorem at_TurnB (s : ByteArray × ByteArray) (r : ByteArray × ByteArray × ByteArray) (w : World) (hE : Env w) (h1 : s.1.size ≤ 100) (h2 : s.2.size ≤ 100) (h3 : r.1.size ≤ 100) (h4 : r.2.1.size ≤ 100) (h5 : r.2.2.size ≤ 100) :
    Calls Tryz.prog 41 #[.agg #[.string s.1, .string s.2], txW r] w fun e w' => e = .returned (.tuple #[vres (((rvB s.1 && rvB s.2) && vvB r) && inR (rvX s.1) (rvX s.2)) (turnV (rvX s.1) (rvX s.2) (vvX r)), .int .i64 (acode ((rvB s.1 && rvB s.2) && vvB r) (inR (rvX s.1) (rvX s.2)))]) ∧ Below w.heap.size w w' := by
  have fw : ∀ {k : Nat}, k ≤ 100 → k ≤ 10000000 := fun h => Nat.le_trans h (by decide)
  have hP := fun w hE => at_pointB s r w hE h1 h2 ⟨fw h3, fw h4, fw h5⟩
  cases hk : (((rvB s.1 && rvB s.2) && vvB r) && inR (rvX s.1) (rvX s.2)) with
  | false => exact at_Turn_err _ _ _ _ _ _ w hE (acode_ne hk) hP
  | true =>
    rw [Bool.and_eq_true, Bool.and_eq_true] at hk
    obtain ⟨e1, e2⟩ := at_texts hk.1.1
    have er := vv_text hk.1.2
    have z1 : Sz 101 (rvX s.1) := sz_rvX h1 (by decide)
    have z2 : Sz 101 (rvX s.2) := sz_rvX h2 (by decide)
    have zr : SzV 101 (vvX r) := ⟨sz_rvX h3 (by decide), sz_rvX h4 (by decide), sz_rvX h5 (by decide)⟩
    have ec : acode ((rvB s.1 && rvB s.2) && vvB r) (inR (rvX s.1) (rvX s.2)) = 0 := by rw [hk.1.1, hk.1.2, hk.2]; rfl
    rw [ec] at hP ⊢
    have hA := fun w hE => at_axes (rvX s.1) (rvX s.2) w hE (z1.mono (by decide)) (z2.mono (by decide)) hk.2
    rw [← e1, ← e2] at hA
    have D0 := fun w hE => ve_Dot (axA (rvX s.1) (rvX s.2)) (vvX r) w hE ((szV_axA z1 z2).mono (by decide)) (zr.mono (by decide))
    have D1 := fun w hE => ve_Dot (axS (rvX s.1)) (vvX r) w hE ((szV_axS z1 (by decide)).mono (by decide)) (zr.mono (by decide))
    have D2 := fun w hE => ve_Dot (axU (rvX s.1) (rvX s.2)) (vvX r) w hE ((szV_axU z1 z2).mono (by decide)) (zr.mono (by decide))
    unfold vV at D0 D1 D2
    rw [← show r.1 = rs (vvX r).x from congrArg Prod.fst er, ← show r.2.1 = rs (vvX r).y from congrArg (fun q => q.2.1) er, ← show r.2.2 = rs (vvX r).z from congrArg (fun q => q.2.2) er] at D0 D1 D2
    exact at_Turn_ok _ _ _ _ _ _ _ _ _ _ _ _ _ _ _ _ _ w hE hP hA D0 D1 D2


theorem inR_neg {p q : Rat} (h : inR p q = true) : inR (-p) q = true := by
  unfold inR at h ⊢
  rw [Bool.and_eq_true, Bool.and_eq_true] at h ⊢
  refine ⟨⟨?_, h.1.2⟩, h.2⟩
  have k := h.1.1
  unfold wiQ at k ⊢
  rw [Bool.and_eq_true, Bool.not_eq_true', Bool.not_eq_true', decide_eq_false_iff_not, decide_eq_false_iff_not, cmpQ_neg, cmpQ_neg] at k ⊢
  exact ⟨by grind, by grind⟩
theorem at_MirrorX (s : ByteArray × ByteArray) (w : World) (hE : Env w) (h1 : s.1.size ≤ 40) (h2 : s.2.size ≤ 40) (hk : ((rvB s.1 && rvB s.2) && inR (rvX s.1) (rvX s.2)) = true) :
    Calls Tryz.prog 42 #[.agg #[.string s.1, .string s.2]] w fun e w' => e = .returned (.tuple #[.agg #[.string (rs (-(rvX s.1))), .string s.2], .int .i64 0]) ∧ Below w.heap.size w w' := by
  have hC := fun w hE => at_Check s w hE (Nat.le_trans h1 (by decide)) (Nat.le_trans h2 (by decide))
  rw [Bool.and_eq_true] at hk
  obtain ⟨e1, e2⟩ := at_texts hk.1
  have z1 : Sz 41 (rvX s.1) := sz_rvX h1 (by decide)
  have ec : acode (rvB s.1 && rvB s.2) (inR (rvX s.1) (rvX s.2)) = 0 := by rw [hk.1, hk.2]; rfl
  rw [ec] at hC
  have hO := fun w hE => at_opposite (rvX s.1) w hE (z1.mono (by decide))
  rw [← e1] at hO
  exact at_Mirror_ok _ _ _ w hE hC hO
theorem at_MirrorE (s : ByteArray × ByteArray) (h1 : s.1.size ≤ 40) (h2 : s.2.size ≤ 40) :
    ∃ m0 m1 c2, ∀ w, Env w → Calls Tryz.prog 42 #[.agg #[.string s.1, .string s.2]] w fun e w' => e = .returned (.tuple #[.agg #[.string m0, .string m1], .int .i64 c2]) ∧ Below w.heap.size w w' := by
  cases hk : ((rvB s.1 && rvB s.2) && inR (rvX s.1) (rvX s.2)) with
  | true => exact ⟨_, _, _, fun w hE => at_MirrorX s w hE h1 h2 hk⟩
  | false => exact ⟨_, _, _, fun w hE => at_Mirror_err _ _ _ w hE (acode_ne hk) (fun w hE => at_Check s w hE (Nat.le_trans h1 (by decide)) (Nat.le_trans h2 (by decide)))⟩

theorem la_mirrors (h t r0 r1 r2 : ByteArray) (w : World) (hE : Env w) (hm : h.size ≤ 9223372036854775807 ∧ t.size ≤ 9223372036854775807) (hr : Mx (r0, r1, r2)) :
    Calls Tryz.prog 6 #[.agg #[.string h, .string t], .agg #[.string r0, .string r1, .string r2]] w fun e w' => e = .returned (.bool true) ∧ Below w.heap.size w w' := by
  have hS := fun (w : World) (_ : Env w) => r16_ShortA h t w hm.1 hm.2
  have hT := fun (w : World) (_ : Env w) => r16_ShortV r0 r1 r2 w hr.1 hr.2.1 hr.2.2
  by_cases hs : (h.size ≤ 40 ∧ t.size ≤ 40) ∧ r0.size ≤ 40 ∧ r1.size ≤ 40 ∧ r2.size ≤ 40
  · obtain ⟨⟨s1, s2⟩, s3, s4, s5⟩ := hs
    simp only [decide_eq_true s1, decide_eq_true s2, Bool.and_self] at hS
    simp only [decide_eq_true s3, decide_eq_true s4, decide_eq_true s5, Bool.and_self] at hT
    have hU := fun w hE => at_TurnA (h, t) (r0, r1, r2) w hE s1 s2 s3 s4 s5
    cases hk : (((rvB h && rvB t) && vvB (r0, r1, r2)) && inR (rvX h) (rvX t)) with
    | false =>
      obtain ⟨m0, m1, c2, hM⟩ := at_MirrorE (h, t) s1 s2
      simp only [hk] at hU
      exact la16_mir_bad h t r0 r1 r2 _ _ _ m0 m1 _ c2 w hE (acode_ne hk) hS hT hU hM
    | true =>
      simp only [hk] at hU
      rw [Bool.and_eq_true, Bool.and_eq_true] at hk
      have ec : acode ((rvB h && rvB t) && vvB (r0, r1, r2)) (inR (rvX h) (rvX t)) = 0 := by rw [hk.1.1, hk.1.2, hk.2]; rfl
      rw [ec] at hU
      have hM := fun w hE => at_MirrorX (h, t) w hE s1 s2 (by rw [Bool.and_eq_true]; exact ⟨hk.1.1, hk.2⟩)
      have z1 : Sz 41 (rvX h) := sz_rvX s1 (by decide)
      have z2 : Sz 41 (rvX t) := sz_rvX s2 (by decide)
      have y1 : Sz 41 (rvX r1) := sz_rvX s4 (by decide)
      have zr : SzV 41 (vvX (r0, r1, r2)) := ⟨sz_rvX s3 (by decide), y1, sz_rvX s5 (by decide)⟩
      have zv := szV_turn z1 z2 zr (by decide)
      have er := vv_text hk.1.2
      have et := (at_texts (s := (h, t)) hk.1.1).2
      have hb1 : rvB r1 = true := by
        have := hk.1.2
        unfold vvB at this
        rw [Bool.and_eq_true, Bool.and_eq_true] at this
        exact this.1.2
      have n1 : (rs (-rvX h)).size ≤ 100 := by have := rs_size (-rvX h); have := (sz_neg z1).1; have := (sz_neg z1).2; omega
      have n2 : (rs (-rvX r1)).size ≤ 100 := by have := rs_size (-rvX r1); have := (sz_neg y1).1; have := (sz_neg y1).2; omega
      have hW := fun w hE => at_TurnB (rs (-rvX h), t) (r0, rs (-rvX r1), r2) w hE n1 (Nat.le_trans s2 (by decide)) (Nat.le_trans s3 (by decide)) n2 (Nat.le_trans s5 (by decide))
      have b0 : rvB r0 = true := by have := hk.1.2; unfold vvB at this; rw [Bool.and_eq_true, Bool.and_eq_true] at this; exact this.1.1
      have b2 : rvB r2 = true := by have := hk.1.2; unfold vvB at this; rw [Bool.and_eq_true, Bool.and_eq_true] at this; exact this.2
      have bt : rvB t = true := by have := hk.1.1; rw [Bool.and_eq_true] at this; exact this.2
      have ev : vvB (r0, rs (-rvX r1), r2) = true := by unfold vvB; rw [b0, rvB_rs, b2]; rfl
      have ex : vvX (r0, rs (-rvX r1), r2) = ⟨(vvX (r0, r1, r2)).x, -(vvX (r0, r1, r2)).y, (vvX (r0, r1, r2)).z⟩ := by unfold vvX; simp only [rvX_rs]
      simp only [rvB_rs, rvX_rs, bt, ev, ex, inR_neg hk.2, Bool.and_self, turn_mirror] at hW
      unfold vres vV txW at hU hW
      simp only [if_true, acode] at hU hW
      have hF := fun w => r3_From r1 w (Nat.le_trans s4 (by decide))
      unfold FrP at hF
      rw [hb1] at hF
      have e0 : (⟨(vvX (r0, r1, r2)).x, (vvX (r0, r1, r2)).y, (vvX (r0, r1, r2)).z⟩ : V3) = vvX (r0, r1, r2) := rfl
      rw [e0] at hW
      generalize hv : turnV (rvX h) (rvX t) (vvX (r0, r1, r2)) = v at *
      have hG := fun w => r3_From (rs v.y) w (by have := rs_size v.y; have := zv.2.1.1; have := zv.2.1.2; omega)
      unfold FrP at hG
      rw [rvX_rs, rvB_rs] at hG
      exact la16_mir_ok h t r0 r1 r2 _ _ _ _ (rs (-rvX r1)) (rs (-v.y)) (rvX r1) (-rvX r1) v.y (-v.y) _ _ _ _ w hE hS hT hU hM hF (fun w p d k => r16_Neg _ p d w k (y1.mono (by decide))) (fun w p d k => r3_To _ p d w k ((sz_neg y1).mono (by decide))) hW hG
        (fun w p d k => r16_Neg _ p d w k (zv.2.1.mono (by decide))) (fun w p d k => r3_To _ p d w k ((sz_neg zv.2.1).mono (by decide)))
  · exact la16_mir_long h t r0 r1 r2 _ _ w hE (by
      by_cases k1 : h.size ≤ 40 ∧ t.size ≤ 40
      · have k2 : ¬ (r0.size ≤ 40 ∧ r1.size ≤ 40 ∧ r2.size ≤ 40) := fun q => hs ⟨k1, q⟩
        have : (decide (r0.size ≤ 40) && (decide (r1.size ≤ 40) && decide (r2.size ≤ 40))) = false := by
          rw [Bool.eq_false_iff]; intro q; rw [Bool.and_eq_true, Bool.and_eq_true, decide_eq_true_iff, decide_eq_true_iff, decide_eq_true_iff] at q; exact k2 q
        rw [this, Bool.and_false]
      · have : (decide (h.size ≤ 40) && decide (t.size ≤ 40)) = false := by
          rw [Bool.eq_false_iff]; intro q; rw [Bool.and_eq_true, decide_eq_true_iff, decide_eq_true_iff] at q; exact k1 q
        rw [this, Bool.false_and]) hS hT
end Go.Proofs.YtgbabmkclojgeaaGreatDoor
