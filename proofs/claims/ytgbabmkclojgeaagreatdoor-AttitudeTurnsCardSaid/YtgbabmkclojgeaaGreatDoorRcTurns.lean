/- The law AttitudeTurns. -/
import Derived.Test.YtgbabmkclojgeaaGreatDoorRcBack
namespace Go.Proofs.YtgbabmkclojgeaaGreatDoor
open Go.RowKit Go.Shelf Go.Sort

attribute [local go_sem] Oper.semAt_some vec_guard vec_eq


set_option maxRecDepth 100000 in
set_option maxHeartbeats 4000000 in
theorem la16_trn_long (h t r0 r1 r2 : ByteArray) (b1 b2 : Bool) (w : World) (hE : Env w) (hb12 : (b1 && b2) = false)
    (hs : ∀ w, Env w → Calls Tryz.prog 14 #[.agg #[.string h, .string t]] w fun e w' => e = .returned (.bool b1) ∧ Below w.heap.size w w')
    (ht : ∀ w, Env w → Calls Tryz.prog 40 #[.agg #[.string r0, .string r1, .string r2]] w fun e w' => e = .returned (.bool b2) ∧ Below w.heap.size w w') :
    Calls Tryz.prog 9 #[.agg #[.string h, .string t], .agg #[.string r0, .string r1, .string r2]] w fun e w' => e = .returned (.bool true) ∧ Below w.heap.size w w' := by
  cases b1
  · clear hb12
    have H0 := Lib.hid (fun w hE => la16_awake w hE)
    have HS := Lib.hid hs
    have HT := Lib.hid ht
    have HE := Lib.hid hE
    clear hE hs ht 
    go_enter Tryz.func9, Tryz.ntmps9
    go_wp2_with fail
    generalize hW : (World.alloc w _).alloc _ = W
    obtain ⟨hB, hsz, RA, RB⟩ := A2 hW
    have RA := Lib.hid RA
    have RB := Lib.hid RB
    clear hW hsz
    refine (H0.out _ (HE.out.below hB)).mono ?_
    rintro e w1 ⟨rfl, hb⟩
    replace hB := bstep hB hb
    have RA := Lib.hid (keep hb RA.out)
    have RB := Lib.hid (keep hb RB.out)
    clear hb
    obtain ⟨RAc0, RAc1, RAf0, RAf1⟩ := row2 RA.out
    go_wp2_with fail
    clear RAc0 RAc1 RAf0 RAf1
    refine (HS.out _ (HE.out.below hB)).mono ?_
    rintro e w2 ⟨rfl, hb⟩
    replace hB := bstep hB hb
    have RA := Lib.hid (keep hb RA.out)
    have RB := Lib.hid (keep hb RB.out)
    clear hb
    go_wp2_with fail
    go_ret
    exact ⟨rfl, hB⟩
  · cases b2
    · clear hb12
      have H0 := Lib.hid (fun w hE => la16_awake w hE)
      have HS := Lib.hid hs
      have HT := Lib.hid ht
      have HE := Lib.hid hE
      clear hE hs ht 
      go_enter Tryz.func9, Tryz.ntmps9
      go_wp2_with fail
      generalize hW : (World.alloc w _).alloc _ = W
      obtain ⟨hB, hsz, RA, RB⟩ := A2 hW
      have RA := Lib.hid RA
      have RB := Lib.hid RB
      clear hW hsz
      refine (H0.out _ (HE.out.below hB)).mono ?_
      rintro e w1 ⟨rfl, hb⟩
      replace hB := bstep hB hb
      have RA := Lib.hid (keep hb RA.out)
      have RB := Lib.hid (keep hb RB.out)
      clear hb
      obtain ⟨RAc0, RAc1, RAf0, RAf1⟩ := row2 RA.out
      go_wp2_with fail
      clear RAc0 RAc1 RAf0 RAf1
      refine (HS.out _ (HE.out.below hB)).mono ?_
      rintro e w2 ⟨rfl, hb⟩
      replace hB := bstep hB hb
      have RA := Lib.hid (keep hb RA.out)
      have RB := Lib.hid (keep hb RB.out)
      clear hb
      obtain ⟨RBc0, RBc1, RBc2, RBf0, RBf1, RBf2⟩ := row3 RB.out
      go_wp2_with fail
      clear RBc0 RBc1 RBc2 RBf0 RBf1 RBf2
      refine (HT.out _ (HE.out.below hB)).mono ?_
      rintro e w3 ⟨rfl, hb⟩
      replace hB := bstep hB hb
      have RA := Lib.hid (keep hb RA.out)
      have RB := Lib.hid (keep hb RB.out)
      clear hb
      go_wp2_with fail
      go_ret
      exact ⟨rfl, hB⟩
    · exact absurd hb12 (by decide)


set_option maxRecDepth 100000 in
set_option maxHeartbeats 4000000 in
theorem la16_trn_yes (h t r0 r1 r2 z0 z1 z2 p0 p1 p2 : ByteArray) (c1 c2 : Int) (w : World) (hE : Env w)
    (hs : ∀ w, Env w → Calls Tryz.prog 14 #[.agg #[.string h, .string t]] w fun e w' => e = .returned (.bool true) ∧ Below w.heap.size w w')
    (ht : ∀ w, Env w → Calls Tryz.prog 40 #[.agg #[.string r0, .string r1, .string r2]] w fun e w' => e = .returned (.bool true) ∧ Below w.heap.size w w')
    (h1 : ∀ w, Env w → Calls Tryz.prog 41 #[.agg #[.string h, .string t], .agg #[.string r0, .string r1, .string r2]] w fun e w' => e = .returned (.tuple #[.agg #[.string z0, .string z1, .string z2], .int .i64 c1]) ∧ Below w.heap.size w w')
    (h2 : ∀ w, Env w → Calls Tryz.prog 57 #[.agg #[.string h, .string t], .agg #[.string r0, .string r1, .string r2]] w fun e w' => e = .returned (.tuple #[.agg #[.string z0, .string z1, .string z2], .int .i64 c1]) ∧ Below w.heap.size w w')
    (h3 : ∀ w, Env w → Calls Tryz.prog 58 #[.agg #[.string h, .string t], .agg #[.string r0, .string r1, .string r2]] w fun e w' => e = .returned (.tuple #[.agg #[.string p0, .string p1, .string p2], .int .i64 c2]) ∧ Below w.heap.size w w')
    (h4 : ∀ w, Env w → Calls Tryz.prog 59 #[.agg #[.string h, .string t], .agg #[.string r0, .string r1, .string r2]] w fun e w' => e = .returned (.tuple #[.agg #[.string p0, .string p1, .string p2], .int .i64 c2]) ∧ Below w.heap.size w w') :
    Calls Tryz.prog 9 #[.agg #[.string h, .string t], .agg #[.string r0, .string r1, .string r2]] w fun e w' => e = .returned (.bool true) ∧ Below w.heap.size w w' := by
  have H0 := Lib.hid (fun w hE => la16_awake w hE)
  have HS := Lib.hid hs
  have HT := Lib.hid ht
  have H1 := Lib.hid h1
  have H2 := Lib.hid h2
  have H3 := Lib.hid h3
  have H4 := Lib.hid h4
  have HE := Lib.hid hE
  clear hE hs ht h1 h2 h3 h4
  go_enter Tryz.func9, Tryz.ntmps9
  go_wp2_with fail
  generalize hW : (World.alloc w _).alloc _ = W
  obtain ⟨hB, hsz, RA, RB⟩ := A2 hW
  have RA := Lib.hid RA
  have RB := Lib.hid RB
  clear hW hsz
  refine (H0.out _ (HE.out.below hB)).mono ?_
  rintro e w1 ⟨rfl, hb⟩
  replace hB := bstep hB hb
  have RA := Lib.hid (keep hb RA.out)
  have RB := Lib.hid (keep hb RB.out)
  clear hb
  obtain ⟨RAc0, RAc1, RAf0, RAf1⟩ := row2 RA.out
  go_wp2_with fail
  clear RAc0 RAc1 RAf0 RAf1
  refine (HS.out _ (HE.out.below hB)).mono ?_
  rintro e w2 ⟨rfl, hb⟩
  replace hB := bstep hB hb
  have RA := Lib.hid (keep hb RA.out)
  have RB := Lib.hid (keep hb RB.out)
  clear hb
  obtain ⟨RBc0, RBc1, RBc2, RBf0, RBf1, RBf2⟩ := row3 RB.out
  go_wp2_with fail
  clear RBc0 RBc1 RBc2 RBf0 RBf1 RBf2
  refine (HT.out _ (HE.out.below hB)).mono ?_
  rintro e w3 ⟨rfl, hb⟩
  replace hB := bstep hB hb
  have RA := Lib.hid (keep hb RA.out)
  have RB := Lib.hid (keep hb RB.out)
  clear hb
  obtain ⟨RAc0, RAc1, RAf0, RAf1⟩ := row2 RA.out
  have lRA := lp2 RA.out
  obtain ⟨RBc0, RBc1, RBc2, RBf0, RBf1, RBf2⟩ := row3 RB.out
  have lRB := lp2 RB.out
  go_wp2_with fail
  clear RAc0 RAc1 RAf0 RAf1
  clear RBc0 RBc1 RBc2 RBf0 RBf1 RBf2
  clear lRA lRB
  refine (H1.out _ (HE.out.below hB)).mono ?_
  rintro e w4 ⟨rfl, hb⟩
  replace hB := bstep hB hb
  have RA := Lib.hid (keep hb RA.out)
  have RB := Lib.hid (keep hb RB.out)
  clear hb
  obtain ⟨RAc0, RAc1, RAf0, RAf1⟩ := row2 RA.out
  have lRA := lp2 RA.out
  obtain ⟨RBc0, RBc1, RBc2, RBf0, RBf1, RBf2⟩ := row3 RB.out
  have lRB := lp2 RB.out
  go_wp2_with fail
  clear RAc0 RAc1 RAf0 RAf1
  clear RBc0 RBc1 RBc2 RBf0 RBf1 RBf2
  clear lRA lRB
  generalize hW : World.alloc _ _ = V4
  obtain ⟨hb, hsz, RF⟩ := A1 hW
  replace hB := bstep hB hb
  have RA := Lib.hid (keep hb RA.out)
  have RB := Lib.hid (keep hb RB.out)
  clear hb
  have RF := Lib.hid RF
  clear hW hsz
  refine (H2.out _ (HE.out.below hB)).mono ?_
  rintro e w5 ⟨rfl, hb⟩
  replace hB := bstep hB hb
  have RA := Lib.hid (keep hb RA.out)
  have RB := Lib.hid (keep hb RB.out)
  have RF := Lib.hid (keep hb RF.out)
  clear hb
  obtain ⟨RAc0, RAc1, RAf0, RAf1⟩ := row2 RA.out
  have lRA := lp2 RA.out
  obtain ⟨RBc0, RBc1, RBc2, RBf0, RBf1, RBf2⟩ := row3 RB.out
  have lRB := lp2 RB.out
  go_wp2_with fail
  clear RAc0 RAc1 RAf0 RAf1
  clear RBc0 RBc1 RBc2 RBf0 RBf1 RBf2
  clear lRA lRB
  generalize hW : World.alloc _ _ = V5
  obtain ⟨hb, hsz, RG⟩ := A1 hW
  replace hB := bstep hB hb
  have RA := Lib.hid (keep hb RA.out)
  have RB := Lib.hid (keep hb RB.out)
  have RF := Lib.hid (keep hb RF.out)
  clear hb
  have RG := Lib.hid RG
  clear hW hsz
  refine (H3.out _ (HE.out.below hB)).mono ?_
  rintro e w6 ⟨rfl, hb⟩
  replace hB := bstep hB hb
  have RA := Lib.hid (keep hb RA.out)
  have RB := Lib.hid (keep hb RB.out)
  have RF := Lib.hid (keep hb RF.out)
  have RG := Lib.hid (keep hb RG.out)
  clear hb
  obtain ⟨RAc0, RAc1, RAf0, RAf1⟩ := row2 RA.out
  have lRA := lp2 RA.out
  obtain ⟨RBc0, RBc1, RBc2, RBf0, RBf1, RBf2⟩ := row3 RB.out
  have lRB := lp2 RB.out
  go_wp2_with fail
  clear RAc0 RAc1 RAf0 RAf1
  clear RBc0 RBc1 RBc2 RBf0 RBf1 RBf2
  clear lRA lRB
  generalize hW : World.alloc _ _ = V6
  obtain ⟨hb, hsz, RP⟩ := A1 hW
  replace hB := bstep hB hb
  have RA := Lib.hid (keep hb RA.out)
  have RB := Lib.hid (keep hb RB.out)
  have RF := Lib.hid (keep hb RF.out)
  have RG := Lib.hid (keep hb RG.out)
  clear hb
  have RP := Lib.hid RP
  clear hW hsz
  refine (H4.out _ (HE.out.below hB)).mono ?_
  rintro e w7 ⟨rfl, hb⟩
  replace hB := bstep hB hb
  have RA := Lib.hid (keep hb RA.out)
  have RB := Lib.hid (keep hb RB.out)
  have RF := Lib.hid (keep hb RF.out)
  have RG := Lib.hid (keep hb RG.out)
  have RP := Lib.hid (keep hb RP.out)
  clear hb
  go_upto_region 9 with fail
  generalize hW : World.alloc _ _ = V
  obtain ⟨hb, hsz, RQ⟩ := A1 hW
  replace hB := bstep hB hb
  have RA := Lib.hid (keep hb RA.out)
  have RB := Lib.hid (keep hb RB.out)
  have RF := Lib.hid (keep hb RF.out)
  have RG := Lib.hid (keep hb RG.out)
  have RP := Lib.hid (keep hb RP.out)
  clear hb
  have RQ := Lib.hid RQ
  clear hW hsz
  obtain ⟨RFc0, RFc1, RFc2, RFf0, RFf1, RFf2⟩ := row3 RF.out
  obtain ⟨RGc0, RGc1, RGc2, RGf0, RGf1, RGf2⟩ := row3 RG.out
  obtain ⟨RPc0, RPc1, RPc2, RPf0, RPf1, RPf2⟩ := row3 RP.out
  obtain ⟨RQc0, RQc1, RQc2, RQf0, RQf1, RQf2⟩ := row3 RQ.out
  go_wp2_with fail
  go_ret
  exact ⟨rfl, hB⟩

theorem la_turns (h t r0 r1 r2 : ByteArray) (w : World) (hE : Env w) (hm : h.size ≤ 9223372036854775807 ∧ t.size ≤ 9223372036854775807) (hr : Mx (r0, r1, r2)) :
    Calls Tryz.prog 9 #[.agg #[.string h, .string t], .agg #[.string r0, .string r1, .string r2]] w fun e w' => e = .returned (.bool true) ∧ Below w.heap.size w w' := by
  have hS := fun (w : World) (_ : Env w) => r16_ShortA h t w hm.1 hm.2
  have hT := fun (w : World) (_ : Env w) => r16_ShortV r0 r1 r2 w hr.1 hr.2.1 hr.2.2
  by_cases hs : (h.size ≤ 40 ∧ t.size ≤ 40) ∧ r0.size ≤ 40 ∧ r1.size ≤ 40 ∧ r2.size ≤ 40
  · obtain ⟨⟨s1, s2⟩, s3, s4, s5⟩ := hs
    simp only [decide_eq_true s1, decide_eq_true s2, Bool.and_self] at hS
    simp only [decide_eq_true s3, decide_eq_true s4, decide_eq_true s5, Bool.and_self] at hT
    have H1 := fun w hE => at_TurnA (h, t) (r0, r1, r2) w hE s1 s2 s3 s4 s5
    have H2 := fun (w : World) (_ : Env w) => r16_TurnA (h, t) (r0, r1, r2) w s1 s2 s3 s4 s5
    have H3 := fun w hE => at_BackA (h, t) (r0, r1, r2) w hE s1 s2 s3 s4 s5
    have H4 := fun (w : World) (_ : Env w) => r16_BackA (h, t) (r0, r1, r2) w s1 s2 s3 s4 s5
    obtain ⟨_, _, _, e1⟩ := vres_is (((rvB h && rvB t) && vvB (r0, r1, r2)) && inR (rvX h) (rvX t)) (turnV (rvX h) (rvX t) (vvX (r0, r1, r2)))
    obtain ⟨_, _, _, e2⟩ := vres_is (((rvB h && rvB t) && vvB (r0, r1, r2)) && inR (rvX h) (rvX t)) (backV (rvX h) (rvX t) (vvX (r0, r1, r2)))
    simp only [e1] at H1 H2
    simp only [e2] at H3 H4
    exact la16_trn_yes h t r0 r1 r2 _ _ _ _ _ _ _ _ w hE hS hT H1 H2 H3 H4
  · exact la16_trn_long h t r0 r1 r2 _ _ w hE (by
      by_cases k1 : h.size ≤ 40 ∧ t.size ≤ 40
      · have k2 : ¬ (r0.size ≤ 40 ∧ r1.size ≤ 40 ∧ r2.size ≤ 40) := fun q => hs ⟨k1, q⟩
        have : (decide (r0.size ≤ 40) && (decide (r1.size ≤ 40) && decide (r2.size ≤ 40))) = false := by
          rw [Bool.eq_false_iff]; intro q; rw [Bool.and_eq_true, Bool.and_eq_true, decide_eq_true_iff, decide_eq_true_iff, decide_eq_true_iff] at q; exact k2 q
        rw [this, Bool.and_false]
      · have : (decide (h.size ≤ 40) && decide (t.size ≤ 40)) = false := by
          rw [Bool.eq_false_iff]; intro q; rw [Bool.and_eq_true, decide_eq_true_iff, decide_eq_true_iff] at q; exact k1 q
        rw [this, Bool.false_and]) hS hT
end Go.Proofs.YtgbabmkclojgeaaGreatDoor
