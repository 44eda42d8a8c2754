/- The law AttitudeFrames. -/
import Derived.Test.YtgbabmkclojgeaaGreatDoorRcBack
import Derived.Test.YtgbabmkclojgeaaGreatDoorQwAttitude
namespace Go.Proofs.YtgbabmkclojgeaaGreatDoor
open Go.RowKit Go.Shelf Go.Sort

attribute [local go_sem] Oper.semAt_some 

theorem att_guard : Tryz.prog.eqGuardType Tryz.prog.depth 24 = false := by kernel_rfl
theorem att_held : Tryz.prog.stoodInHeld 24 = false := by kernel_rfl
theorem att_eq_self (w : World) (a b : ByteArray) : (Op.equalIn 10000 24 (.agg #[.string a, .string b]) (.agg #[.string a, .string b])).run Tryz.prog w = .ok true w := by
  have hf : Tryz.prog.underlying 24 = some (.struct (Tryz.prog.fieldsOf 24)) := by
    unfold Program.fieldsOf
    rw [Tryz.underlying24]
  refine (run_equalIn_agg w 9999 _ _ _ hf att_held).trans ?_
  unfold Program.fieldsOf
  rw [Tryz.underlying24]
  simp [Op.eqFields, go_sem]
theorem pla_eq_self (w : World) (a b c d : ByteArray) : (Op.equalIn 10000 48 (.agg #[.string a, .string b, .string c, .string d]) (.agg #[.string a, .string b, .string c, .string d])).run Tryz.prog w = .ok true w := by
  rw [pla_eq]
  simp
attribute [local go_sem] fr_guard fr_eq_self pla_guard pla_eq_self att_guard att_eq_self


set_option maxRecDepth 100000 in
set_option maxHeartbeats 4000000 in
theorem la16_fra_long (h t d : ByteArray) (b1 b2 : Bool) (w : World) (hE : Env w) (hb12 : (b1 && b2) = false)
    (hs : ∀ w, Env w → Calls Tryz.prog 14 #[.agg #[.string h, .string t]] w fun e w' => e = .returned (.bool b1) ∧ Below w.heap.size w w')
    (ht : ∀ w, Env w → Calls Tryz.prog 50 #[.string d] w fun e w' => e = .returned (.bool b2) ∧ Below w.heap.size w w') :
    Calls Tryz.prog 8 #[.agg #[.string h, .string t], .string d] w fun e w' => e = .returned (.bool true) ∧ Below w.heap.size w w' := by
  cases b1
  · clear hb12
    have H0 := Lib.hid (fun w hE => la16_awake w hE)
    have HS := Lib.hid hs
    have HT := Lib.hid ht
    have HE := Lib.hid hE
    clear hE hs ht 
    go_enter Tryz.func8, Tryz.ntmps8
    go_wp2_with fail
    generalize hW : World.alloc w _ = W
    obtain ⟨hB, hsz, RA⟩ := A1 hW
    have RA := Lib.hid RA
    clear hW hsz
    refine (H0.out _ (HE.out.below hB)).mono ?_
    rintro e w1 ⟨rfl, hb⟩
    replace hB := bstep hB hb
    have RA := Lib.hid (keep hb RA.out)
    clear hb
    obtain ⟨RAc0, RAc1, RAf0, RAf1⟩ := row2 RA.out
    go_wp2_with fail
    clear RAc0 RAc1 RAf0 RAf1
    refine (HS.out _ (HE.out.below hB)).mono ?_
    rintro e w2 ⟨rfl, hb⟩
    replace hB := bstep hB hb
    have RA := Lib.hid (keep hb RA.out)
    clear hb
    go_wp2_with fail
    go_ret
    exact ⟨rfl, hB⟩
  · cases b2
    · clear hb12
      have H0 := Lib.hid (fun w hE => la16_awake w hE)
      have HS := Lib.hid hs
      have HT := Lib.hid ht
      have HE := Lib.hid hE
      clear hE hs ht 
      go_enter Tryz.func8, Tryz.ntmps8
      go_wp2_with fail
      generalize hW : World.alloc w _ = W
      obtain ⟨hB, hsz, RA⟩ := A1 hW
      have RA := Lib.hid RA
      clear hW hsz
      refine (H0.out _ (HE.out.below hB)).mono ?_
      rintro e w1 ⟨rfl, hb⟩
      replace hB := bstep hB hb
      have RA := Lib.hid (keep hb RA.out)
      clear hb
      obtain ⟨RAc0, RAc1, RAf0, RAf1⟩ := row2 RA.out
      go_wp2_with fail
      clear RAc0 RAc1 RAf0 RAf1
      refine (HS.out _ (HE.out.below hB)).mono ?_
      rintro e w2 ⟨rfl, hb⟩
      replace hB := bstep hB hb
      have RA := Lib.hid (keep hb RA.out)
      clear hb
      go_wp2_with fail
      refine (HT.out _ (HE.out.below hB)).mono ?_
      rintro e w3 ⟨rfl, hb⟩
      replace hB := bstep hB hb
      have RA := Lib.hid (keep hb RA.out)
      clear hb
      go_wp2_with fail
      go_ret
      exact ⟨rfl, hB⟩
    · exact absurd hb12 (by decide)


set_option maxRecDepth 100000 in
set_option maxHeartbeats 4000000 in
theorem la16_fra_yes (h t d z0 z1 z2 z3 z4 z5 z6 z7 z8 p0 p1 p2 p3 m0 m1 : ByteArray) (c1 c2 c3 c4 : Int) (w : World) (hE : Env w)
    (hs : ∀ w, Env w → Calls Tryz.prog 14 #[.agg #[.string h, .string t]] w fun e w' => e = .returned (.bool true) ∧ Below w.heap.size w w')
    (ht : ∀ w, Env w → Calls Tryz.prog 50 #[.string d] w fun e w' => e = .returned (.bool true) ∧ Below w.heap.size w w')
    (h1 : ∀ w, Env w → Calls Tryz.prog 15 #[.agg #[.string h, .string t]] w fun e w' => e = .returned (.tuple #[.agg #[.string z0, .string z1, .string z2, .string z3, .string z4, .string z5, .string z6, .string z7, .string z8], .int .i64 c1]) ∧ Below w.heap.size w w')
    (h2 : ∀ w, Env w → Calls Tryz.prog 51 #[.agg #[.string h, .string t]] w fun e w' => e = .returned (.tuple #[.agg #[.string z0, .string z1, .string z2, .string z3, .string z4, .string z5, .string z6, .string z7, .string z8], .int .i64 c1]) ∧ Below w.heap.size w w')
    (h3 : ∀ w, Env w → Calls Tryz.prog 52 #[.agg #[.string h, .string t], .string d] w fun e w' => e = .returned (.tuple #[.agg #[.string p0, .string p1, .string p2, .string p3], .int .i64 c2]) ∧ Below w.heap.size w w')
    (h4 : ∀ w, Env w → Calls Tryz.prog 53 #[.agg #[.string h, .string t], .string d] w fun e w' => e = .returned (.tuple #[.agg #[.string p0, .string p1, .string p2, .string p3], .int .i64 c2]) ∧ Below w.heap.size w w')
    (h5 : ∀ w, Env w → Calls Tryz.prog 42 #[.agg #[.string h, .string t]] w fun e w' => e = .returned (.tuple #[.agg #[.string m0, .string m1], .int .i64 c3]) ∧ Below w.heap.size w w')
    (h6 : ∀ w, Env w → Calls Tryz.prog 54 #[.agg #[.string h, .string t]] w fun e w' => e = .returned (.tuple #[.agg #[.string m0, .string m1], .int .i64 c3]) ∧ Below w.heap.size w w')
    (h7 : ∀ w, Env w → Calls Tryz.prog 55 #[.agg #[.string h, .string t]] w fun e w' => e = .returned (.int .i64 c4) ∧ Below w.heap.size w w')
    (h8 : ∀ w, Env w → Calls Tryz.prog 56 #[.agg #[.string h, .string t]] w fun e w' => e = .returned (.int .i64 c4) ∧ Below w.heap.size w w') :
    Calls Tryz.prog 8 #[.agg #[.string h, .string t], .string d] w fun e w' => e = .returned (.bool true) ∧ Below w.heap.size w w' := by
  have H0 := Lib.hid (fun w hE => la16_awake w hE)
  have HS := Lib.hid hs
  have HT := Lib.hid ht
  have H1 := Lib.hid h1
  have H2 := Lib.hid h2
  have H3 := Lib.hid h3
  have H4 := Lib.hid h4
  have H5 := Lib.hid h5
  have H6 := Lib.hid h6
  have H7 := Lib.hid h7
  have H8 := Lib.hid h8
  have HE := Lib.hid hE
  clear hE hs ht h1 h2 h3 h4 h5 h6 h7 h8
  go_enter Tryz.func8, Tryz.ntmps8
  go_wp2_with fail
  generalize hW : World.alloc w _ = W
  obtain ⟨hB, hsz, RA⟩ := A1 hW
  have RA := Lib.hid RA
  clear hW hsz
  refine (H0.out _ (HE.out.below hB)).mono ?_
  rintro e w1 ⟨rfl, hb⟩
  replace hB := bstep hB hb
  have RA := Lib.hid (keep hb RA.out)
  clear hb
  obtain ⟨RAc0, RAc1, RAf0, RAf1⟩ := row2 RA.out
  go_wp2_with fail
  clear RAc0 RAc1 RAf0 RAf1
  refine (HS.out _ (HE.out.below hB)).mono ?_
  rintro e w2 ⟨rfl, hb⟩
  replace hB := bstep hB hb
  have RA := Lib.hid (keep hb RA.out)
  clear hb
  go_wp2_with fail
  refine (HT.out _ (HE.out.below hB)).mono ?_
  rintro e w3 ⟨rfl, hb⟩
  replace hB := bstep hB hb
  have RA := Lib.hid (keep hb RA.out)
  clear hb
  obtain ⟨RAc0, RAc1, RAf0, RAf1⟩ := row2 RA.out
  have lRA := lp2 RA.out
  go_wp2_with fail
  clear RAc0 RAc1 RAf0 RAf1
  clear lRA
  refine (H1.out _ (HE.out.below hB)).mono ?_
  rintro e w4 ⟨rfl, hb⟩
  replace hB := bstep hB hb
  have RA := Lib.hid (keep hb RA.out)
  clear hb
  obtain ⟨RAc0, RAc1, RAf0, RAf1⟩ := row2 RA.out
  have lRA := lp2 RA.out
  go_wp2_with fail
  clear RAc0 RAc1 RAf0 RAf1
  clear lRA
  generalize hW : World.alloc _ _ = V4
  obtain ⟨hb, hsz, RF⟩ := A1 hW
  replace hB := bstep hB hb
  have RA := Lib.hid (keep hb RA.out)
  clear hb
  have RF := Lib.hid RF
  clear hW hsz
  refine (H2.out _ (HE.out.below hB)).mono ?_
  rintro e w5 ⟨rfl, hb⟩
  replace hB := bstep hB hb
  have RA := Lib.hid (keep hb RA.out)
  have RF := Lib.hid (keep hb RF.out)
  clear hb
  obtain ⟨RAc0, RAc1, RAf0, RAf1⟩ := row2 RA.out
  have lRA := lp2 RA.out
  go_wp2_with fail
  clear RAc0 RAc1 RAf0 RAf1
  clear lRA
  generalize hW : World.alloc _ _ = V5
  obtain ⟨hb, hsz, RG⟩ := A1 hW
  replace hB := bstep hB hb
  have RA := Lib.hid (keep hb RA.out)
  have RF := Lib.hid (keep hb RF.out)
  clear hb
  have RG := Lib.hid RG
  clear hW hsz
  refine (H3.out _ (HE.out.below hB)).mono ?_
  rintro e w6 ⟨rfl, hb⟩
  replace hB := bstep hB hb
  have RA := Lib.hid (keep hb RA.out)
  have RF := Lib.hid (keep hb RF.out)
  have RG := Lib.hid (keep hb RG.out)
  clear hb
  obtain ⟨RAc0, RAc1, RAf0, RAf1⟩ := row2 RA.out
  have lRA := lp2 RA.out
  go_wp2_with fail
  clear RAc0 RAc1 RAf0 RAf1
  clear lRA
  generalize hW : World.alloc _ _ = V6
  obtain ⟨hb, hsz, RP⟩ := A1 hW
  replace hB := bstep hB hb
  have RA := Lib.hid (keep hb RA.out)
  have RF := Lib.hid (keep hb RF.out)
  have RG := Lib.hid (keep hb RG.out)
  clear hb
  have RP := Lib.hid RP
  clear hW hsz
  refine (H4.out _ (HE.out.below hB)).mono ?_
  rintro e w7 ⟨rfl, hb⟩
  replace hB := bstep hB hb
  have RA := Lib.hid (keep hb RA.out)
  have RF := Lib.hid (keep hb RF.out)
  have RG := Lib.hid (keep hb RG.out)
  have RP := Lib.hid (keep hb RP.out)
  clear hb
  obtain ⟨RAc0, RAc1, RAf0, RAf1⟩ := row2 RA.out
  have lRA := lp2 RA.out
  go_wp2_with fail
  clear RAc0 RAc1 RAf0 RAf1
  clear lRA
  generalize hW : World.alloc _ _ = V7
  obtain ⟨hb, hsz, RQ⟩ := A1 hW
  replace hB := bstep hB hb
  have RA := Lib.hid (keep hb RA.out)
  have RF := Lib.hid (keep hb RF.out)
  have RG := Lib.hid (keep hb RG.out)
  have RP := Lib.hid (keep hb RP.out)
  clear hb
  have RQ := Lib.hid RQ
  clear hW hsz
  refine (H5.out _ (HE.out.below hB)).mono ?_
  rintro e w8 ⟨rfl, hb⟩
  replace hB := bstep hB hb
  have RA := Lib.hid (keep hb RA.out)
  have RF := Lib.hid (keep hb RF.out)
  have RG := Lib.hid (keep hb RG.out)
  have RP := Lib.hid (keep hb RP.out)
  have RQ := Lib.hid (keep hb RQ.out)
  clear hb
  obtain ⟨RAc0, RAc1, RAf0, RAf1⟩ := row2 RA.out
  have lRA := lp2 RA.out
  go_wp2_with fail
  clear RAc0 RAc1 RAf0 RAf1
  clear lRA
  generalize hW : World.alloc _ _ = V8
  obtain ⟨hb, hsz, RM⟩ := A1 hW
  replace hB := bstep hB hb
  have RA := Lib.hid (keep hb RA.out)
  have RF := Lib.hid (keep hb RF.out)
  have RG := Lib.hid (keep hb RG.out)
  have RP := Lib.hid (keep hb RP.out)
  have RQ := Lib.hid (keep hb RQ.out)
  clear hb
  have RM := Lib.hid RM
  clear hW hsz
  refine (H6.out _ (HE.out.below hB)).mono ?_
  rintro e w9 ⟨rfl, hb⟩
  replace hB := bstep hB hb
  have RA := Lib.hid (keep hb RA.out)
  have RF := Lib.hid (keep hb RF.out)
  have RG := Lib.hid (keep hb RG.out)
  have RP := Lib.hid (keep hb RP.out)
  have RQ := Lib.hid (keep hb RQ.out)
  have RM := Lib.hid (keep hb RM.out)
  clear hb
  go_upto_region 11 with fail
  generalize hW : World.alloc _ _ = V
  obtain ⟨hb, hsz, RN⟩ := A1 hW
  replace hB := bstep hB hb
  have RA := Lib.hid (keep hb RA.out)
  have RF := Lib.hid (keep hb RF.out)
  have RG := Lib.hid (keep hb RG.out)
  have RP := Lib.hid (keep hb RP.out)
  have RQ := Lib.hid (keep hb RQ.out)
  have RM := Lib.hid (keep hb RM.out)
  clear hb
  have RN := Lib.hid RN
  clear hW hsz
  have hE := HE.out.below hB
  have cRA0 := fun d os => cell_regrown ((rowc2 RA.out).1) d os
  have cRA1 := fun d os => cell_regrown ((rowc2 RA.out).2) d os
  have cRF0 := fun d os => cell_regrown ((rowc9 RF.out).1) d os
  have cRF1 := fun d os => cell_regrown ((rowc9 RF.out).2.1) d os
  have cRF2 := fun d os => cell_regrown ((rowc9 RF.out).2.2.1) d os
  have cRF3 := fun d os => cell_regrown ((rowc9 RF.out).2.2.2.1) d os
  have cRF4 := fun d os => cell_regrown ((rowc9 RF.out).2.2.2.2.1) d os
  have cRF5 := fun d os => cell_regrown ((rowc9 RF.out).2.2.2.2.2.1) d os
  have cRF6 := fun d os => cell_regrown ((rowc9 RF.out).2.2.2.2.2.2.1) d os
  have cRF7 := fun d os => cell_regrown ((rowc9 RF.out).2.2.2.2.2.2.2.1) d os
  have cRF8 := fun d os => cell_regrown ((rowc9 RF.out).2.2.2.2.2.2.2.2) d os
  have cRG0 := fun d os => cell_regrown ((rowc9 RG.out).1) d os
  have cRG1 := fun d os => cell_regrown ((rowc9 RG.out).2.1) d os
  have cRG2 := fun d os => cell_regrown ((rowc9 RG.out).2.2.1) d os
  have cRG3 := fun d os => cell_regrown ((rowc9 RG.out).2.2.2.1) d os
  have cRG4 := fun d os => cell_regrown ((rowc9 RG.out).2.2.2.2.1) d os
  have cRG5 := fun d os => cell_regrown ((rowc9 RG.out).2.2.2.2.2.1) d os
  have cRG6 := fun d os => cell_regrown ((rowc9 RG.out).2.2.2.2.2.2.1) d os
  have cRG7 := fun d os => cell_regrown ((rowc9 RG.out).2.2.2.2.2.2.2.1) d os
  have cRG8 := fun d os => cell_regrown ((rowc9 RG.out).2.2.2.2.2.2.2.2) d os
  have cRP0 := fun d os => cell_regrown ((row4 RP.out).1) d os
  have cRP1 := fun d os => cell_regrown ((row4 RP.out).2.1) d os
  have cRP2 := fun d os => cell_regrown ((row4 RP.out).2.2.1) d os
  have cRP3 := fun d os => cell_regrown ((row4 RP.out).2.2.2.1) d os
  have cRQ0 := fun d os => cell_regrown ((row4 RQ.out).1) d os
  have cRQ1 := fun d os => cell_regrown ((row4 RQ.out).2.1) d os
  have cRQ2 := fun d os => cell_regrown ((row4 RQ.out).2.2.1) d os
  have cRQ3 := fun d os => cell_regrown ((row4 RQ.out).2.2.2.1) d os
  have cRM0 := fun d os => cell_regrown ((rowc2 RM.out).1) d os
  have cRM1 := fun d os => cell_regrown ((rowc2 RM.out).2) d os
  have cRN0 := fun d os => cell_regrown ((rowc2 RN.out).1) d os
  have cRN1 := fun d os => cell_regrown ((rowc2 RN.out).2) d os
  have T1 := Lib.hid (fun d os => Calls.regrown_of (H7.out (grow (redrawn V d) os) (hE.below (below_regrown V d os))))
  have T2 := Lib.hid (fun d os => Calls.regrown_of (H8.out (grow (redrawn V d) os) (hE.below (below_regrown V d os))))
  clear hE H0 HS HT H1 H2 H3 H4 H5 H6 H7 H8
  refine wp_region_quiet_below (by kernel_rfl) (by kernel_rfl) ?_
  repeat (first | quiet_step (with_reducible exact T1.out _ _) | quiet_step (with_reducible exact T2.out _ _))
  refine wpQuiet_nil ?_
  intro _ hw'
  obtain ⟨⟨dq, osq⟩, hw''⟩ := hw'
  subst hw''
  have hb := below_regrown V dq osq
  go_wp2_with fail
  go_ret
  exact ⟨rfl, bstep hB hb⟩

theorem la_frames (h t d : ByteArray) (w : World) (hE : Env w) (hm : h.size ≤ 9223372036854775807 ∧ t.size ≤ 9223372036854775807) (hd : d.size ≤ 9223372036854775807) :
    Calls Tryz.prog 8 #[.agg #[.string h, .string t], .string d] w fun e w' => e = .returned (.bool true) ∧ Below w.heap.size w w' := by
  have hS := fun (w : World) (_ : Env w) => r16_ShortA h t w hm.1 hm.2
  have hT := fun (w : World) (_ : Env w) => r16_Short d w hd
  by_cases hs : (h.size ≤ 40 ∧ t.size ≤ 40) ∧ d.size ≤ 40
  · obtain ⟨⟨s1, s2⟩, s3⟩ := hs
    simp only [decide_eq_true s1, decide_eq_true s2, Bool.and_self] at hS
    simp only [decide_eq_true s3] at hT
    have H1 := fun w hE => at_OfA (h, t) w hE s1 s2
    have H2 := fun (w : World) (_ : Env w) => r16_OfA (h, t) w s1 s2
    have H3 := fun w hE => at_WaterA (h, t) d w hE s1 s2 s3
    have H4 := fun (w : World) (_ : Env w) => r16_WaterA (h, t) d w s1 s2 s3
    have H5 := fun w hE => at_MirrorA (h, t) w hE s1 s2
    have H6 := fun (w : World) (_ : Env w) => r16_MirrorA (h, t) w s1 s2
    have H7 := fun w hE => at_Check (h, t) w hE (Nat.le_trans s1 (by decide)) (Nat.le_trans s2 (by decide))
    have H8 := fun (w : World) (_ : Env w) => r16_CheckA (h, t) w s1 s2
    obtain ⟨_, _, _, _, _, _, _, _, _, e1⟩ := fres_is ((rvB h && rvB t) && inR (rvX h) (rvX t)) (rvX h) (rvX t)
    obtain ⟨_, _, _, _, e2⟩ := wres_is (((rvB h && rvB t) && rvB d) && inR (rvX h) (rvX t)) (axU (rvX h) (rvX t)) d
    obtain ⟨_, _, e3⟩ := mres_is ((rvB h && rvB t) && inR (rvX h) (rvX t)) (rvX h) t
    simp only [e1] at H1 H2
    simp only [e2] at H3 H4
    simp only [e3] at H5 H6
    exact la16_fra_yes h t d _ _ _ _ _ _ _ _ _ _ _ _ _ _ _ _ _ _ _ w hE hS hT H1 H2 H3 H4 H5 H6 H7 H8
  · exact la16_fra_long h t d _ _ w hE (by
      by_cases k1 : h.size ≤ 40 ∧ t.size ≤ 40
      · have k2 : ¬ (d.size ≤ 40) := fun q => hs ⟨k1, q⟩
        have : (decide (d.size ≤ 40)) = false := by
          rw [Bool.eq_false_iff]; intro q; rw [decide_eq_true_iff] at q; exact k2 q
        rw [this, Bool.and_false]
      · have : (decide (h.size ≤ 40) && decide (t.size ≤ 40)) = false := by
          rw [Bool.eq_false_iff]; intro q; rw [Bool.and_eq_true, decide_eq_true_iff, decide_eq_true_iff] at q; exact k1 q
        rw [this, Bool.false_and]) hS hT
end Go.Proofs.YtgbabmkclojgeaaGreatDoor
