/- A PART OF THE PROOF, JOINED OUT OF 2 TEXTS. -/
import Derived.Test.YthkkdepppjiaeaaGreatDoorRlReach
import Derived.Test.YthkkdepppjiaeaaGreatDoorRhWithin
import Derived.Test.YthkkdepppjiaeaaGreatDoorRcBack
import Derived.Test.YthkkdepppjiaeaaGreatDoorReRange
/- Reference 16: Start at solids with texts that are no numbers. The law AttitudeExtents: the walks. -/
namespace Go.Proofs.YthkkdepppjiaeaaGreatDoor
open Go.RowKit Go.Shelf Go.Sort

attribute [local go_sem] Oper.semAt_some
section
attribute [local go_sem ↓ high] storeAt_fr loadAt_fr
attribute [local go_sem high] run_storeAt_fr run_storeAt_frN


set_option maxRecDepth 100000 in
set_option maxHeartbeats 4000000 in
theorem r16_Start_bad (A : Option Addr) (n c : Nat) (h t : ByteArray) (b0 b1 b2 b3 b4 b5 b6 b7 b8 : Bool) (w : World) (hn1 : 1 ≤ n) (hn2 : n ≤ 512)
    (htri : ∀ W, Below w.heap.size w W → Calls Tryz.prog 127 #[.slice A n c] W fun e w' => (∃ v, e = .returned (.tuple #[v, .bool false])) ∧ Below W.heap.size W w')
    (hf : ∀ w, Calls Tryz.prog 77 #[.agg #[.string h, .string t]] w fun e w' => ∃ fA fS fU : VS, e = .returned (.tuple #[.agg #[.bool b0, .slice fA.x.p.A fA.x.p.n fA.x.p.c, .slice fA.x.d.A fA.x.d.n fA.x.d.c, .bool b1, .slice fA.y.p.A fA.y.p.n fA.y.p.c, .slice fA.y.d.A fA.y.d.n fA.y.d.c, .bool b2, .slice fA.z.p.A fA.z.p.n fA.z.p.c, .slice fA.z.d.A fA.z.d.n fA.z.d.c, .bool b3, .slice fS.x.p.A fS.x.p.n fS.x.p.c, .slice fS.x.d.A fS.x.d.n fS.x.d.c, .bool b4, .slice fS.y.p.A fS.y.p.n fS.y.p.c, .slice fS.y.d.A fS.y.d.n fS.y.d.c, .bool b5, .slice fS.z.p.A fS.z.p.n fS.z.p.c, .slice fS.z.d.A fS.z.d.n fS.z.d.c, .bool b6, .slice fU.x.p.A fU.x.p.n fU.x.p.c, .slice fU.x.d.A fU.x.d.n fU.x.d.c, .bool b7, .slice fU.y.p.A fU.y.p.n fU.y.p.c, .slice fU.y.d.A fU.y.d.n fU.y.d.c, .bool b8, .slice fU.z.p.A fU.z.p.n fU.z.p.c, .slice fU.z.d.A fU.z.d.n fU.z.d.c], .int .i64 0]) ∧ Below w.heap.size w w') :
    Calls Tryz.prog 85 #[.slice A n c, .agg #[.string h, .string t]] w fun e w' => e = .returned (.tuple #[.agg #[.bool false, .slice none 0 0, .slice none 0 0, .bool false, .slice none 0 0, .slice none 0 0, .bool false, .slice none 0 0, .slice none 0 0, .bool false, .slice none 0 0, .slice none 0 0, .bool false, .slice none 0 0, .slice none 0 0, .bool false, .slice none 0 0, .slice none 0 0, .bool false, .slice none 0 0, .slice none 0 0, .bool false, .slice none 0 0, .slice none 0 0, .bool false, .slice none 0 0, .slice none 0 0], .slice none 0 0, .int .i64 1]) ∧ Below w.heap.size w w' := by
  have hn0 : ((n : Int) == 0) = false := by rw [beq_eq_false_iff_ne]; omega
  have hn5 : decide ((512 : Int) < (n : Int)) = false := by rw [decide_eq_false_iff_not]; omega
  have HTRI := Lib.hid htri
  have HF := Lib.hid hf
  clear htri hf
  go_enter Tryz.func85, Tryz.ntmps85
  go_wp2_with fail
  generalize hW : (World.alloc w _).alloc _ = W
  obtain ⟨hB, hsz, R3, R4⟩ := A2 hW
  have R3 := Lib.hid R3
  have R4 := Lib.hid R4
  clear hW hsz
  refine (HTRI.out _ hB).mono ?_
  rintro e w1 ⟨⟨v, rfl⟩, hb⟩
  replace hB := bstep hB hb
  have R3 := Lib.hid (keep hb R3.out)
  have R4 := Lib.hid (keep hb R4.out)
  clear hb
  obtain ⟨c0, c1, f0, f1⟩ := row2 R3.out
  go_wp2_with fail
  clear c0 c1 f0 f1
  refine (HF.out _).mono ?_
  rintro e w2 ⟨fA, fS, fU, rfl, hb⟩
  replace hB := bstep hB hb
  have R4 := Lib.hid (keep hb R4.out)
  clear hb
  go_upto_region 7 with fail
  generalize hW : World.alloc _ _ = V
  obtain ⟨hb, hsz, R9⟩ := A1 hW
  replace hB := bstep hB hb
  have R4 := Lib.hid (keep hb R4.out)
  clear hb
  have R9 := Lib.hid R9
  clear hW hsz
  have HT : World.there V (w.heap.size + 1) 0 27 := there_row R4.out
  have E2 := setCells_row R4.out ([.bool false, .slice none 0 0, .slice none 0 0, .bool false, .slice none 0 0, .slice none 0 0, .bool false, .slice none 0 0, .slice none 0 0, .bool false, .slice none 0 0, .slice none 0 0, .bool false, .slice none 0 0, .slice none 0 0, .bool false, .slice none 0 0, .slice none 0 0, .bool false, .slice none 0 0, .slice none 0 0, .bool false, .slice none 0 0, .slice none 0 0, .bool false, .slice none 0 0, .slice none 0 0] : List Value) rfl
  have hB2 := setCells_below (show w.heap.size ≤ w.heap.size + 1 by omega) ([.bool false, .slice none 0 0, .slice none 0 0, .bool false, .slice none 0 0, .slice none 0 0, .bool false, .slice none 0 0, .slice none 0 0, .bool false, .slice none 0 0, .slice none 0 0, .bool false, .slice none 0 0, .slice none 0 0, .bool false, .slice none 0 0, .slice none 0 0, .bool false, .slice none 0 0, .slice none 0 0, .bool false, .slice none 0 0, .slice none 0 0, .bool false, .slice none 0 0, .slice none 0 0] : List Value) 0 _ hB
  go_wp2_with fail
  exact bodyPost_ret (res_ctt rfl fr16_row rfl E2 rfl) rfl ⟨rfl, hB2⟩

end


theorem ivl_eqn (n : Nat) (w : World) (a b : ByteArray) : (Op.equalIn (n + 2) 30 (.agg #[.string a, .string b]) (.agg #[.string a, .string b])).run Tryz.prog w = .ok true w := by
  have hf : Tryz.prog.underlying 30 = some (.struct (Tryz.prog.fieldsOf 30)) := by
    unfold Program.fieldsOf
    rw [Tryz.underlying30]
  refine (run_equalIn_agg w (n + 1) _ _ _ hf (by kernel_rfl)).trans ?_
  unfold Program.fieldsOf
  rw [Tryz.underlying30]
  simp [Op.eqFields, go_sem]
theorem spot_held : Tryz.prog.stoodInHeld 74 = false := by kernel_rfl
theorem spot_eq_self (w : World) (x0 x1 x2 x3 x4 x5 : ByteArray) : (Op.equalIn 10000 74 (.agg #[.string x0, .string x1, .string x2, .string x3, .string x4, .string x5]) (.agg #[.string x0, .string x1, .string x2, .string x3, .string x4, .string x5])).run Tryz.prog w = .ok true w := by
  have hf : Tryz.prog.underlying 74 = some (.struct (Tryz.prog.fieldsOf 74)) := by
    unfold Program.fieldsOf
    rw [Tryz.underlying74]
  refine (run_equalIn_agg w 9999 _ _ _ hf spot_held).trans ?_
  unfold Program.fieldsOf
  rw [Tryz.underlying74]
  simp [Op.eqFields, go_sem, ivl_eqn 9997]
attribute [local go_sem] spot_guard spot_eq_self


set_option maxRecDepth 100000 in
set_option maxHeartbeats 4000000 in
theorem la16_ext_no (A : Option Addr) (n c : Nat) (h t : ByteArray) (r1 r2 : Bool) (w : World) (hE : Env w) (hr : (r1 && r2) = false)
    (hs : ∀ W, Below w.heap.size w W → Calls Tryz.prog 38 #[.slice A n c] W fun e w' => e = .returned (.bool r1) ∧ Below W.heap.size W w')
    (ht : ∀ W, Env W → Calls Tryz.prog 25 #[.agg #[.string h, .string t]] W fun e w' => e = .returned (.bool r2) ∧ Below W.heap.size W w') :
    Calls Tryz.prog 7 #[.slice A n c, .agg #[.string h, .string t]] w fun e w' => e = .returned (.bool true) ∧ Below w.heap.size w w' := by
  have H0 := Lib.hid (fun w hE => la16_awake w hE)
  have HS := Lib.hid hs
  have HT := Lib.hid ht
  have HE := Lib.hid hE
  clear hE hs ht
  cases r1
  · clear hr
    go_enter Tryz.func7, Tryz.ntmps7
    go_wp2_with fail
    generalize hW : World.alloc w _ = W
    obtain ⟨hB, hsz, R3⟩ := A1 hW
    have R3 := Lib.hid R3
    clear hW hsz
    refine (H0.out _ (HE.out.below hB)).mono ?_
    rintro e w1 ⟨rfl, hb⟩
    replace hB := bstep hB hb
    have R3 := Lib.hid (keep hb R3.out)
    clear hb
    go_wp2_with fail
    refine (HS.out _ hB).mono ?_
    rintro e w2 ⟨rfl, hb⟩
    replace hB := bstep hB hb
    have R3 := Lib.hid (keep hb R3.out)
    clear hb
    go_wp2_with fail
    go_ret
    exact ⟨rfl, hB⟩
  · obtain rfl : r2 = false := by simpa using hr
    clear hr
    go_enter Tryz.func7, Tryz.ntmps7
    go_wp2_with fail
    generalize hW : World.alloc w _ = W
    obtain ⟨hB, hsz, R3⟩ := A1 hW
    have R3 := Lib.hid R3
    clear hW hsz
    refine (H0.out _ (HE.out.below hB)).mono ?_
    rintro e w1 ⟨rfl, hb⟩
    replace hB := bstep hB hb
    have R3 := Lib.hid (keep hb R3.out)
    clear hb
    go_wp2_with fail
    refine (HS.out _ hB).mono ?_
    rintro e w2 ⟨rfl, hb⟩
    replace hB := bstep hB hb
    have R3 := Lib.hid (keep hb R3.out)
    clear hb
    obtain ⟨c0, c1, f0, f1⟩ := row2 R3.out
    go_wp2_with fail
    clear c0 c1 f0 f1
    refine (HT.out _ (HE.out.below hB)).mono ?_
    rintro e w3 ⟨rfl, hb⟩
    replace hB := bstep hB hb
    have R3 := Lib.hid (keep hb R3.out)
    clear hb
    go_wp2_with fail
    go_ret
    exact ⟨rfl, hB⟩


set_option maxRecDepth 100000 in
set_option maxHeartbeats 4000000 in
theorem la16_ext_yes (A : Option Addr) (n c : Nat) (h t x0 x1 x2 x3 x4 x5 : ByteArray) (cc : Int) (T : Nat → ByteArray × ByteArray × ByteArray) (w : World) (hE : Env w)
    (hs : ∀ W, Below w.heap.size w W → Calls Tryz.prog 38 #[.slice A n c] W fun e w' => e = .returned (.bool true) ∧ Below W.heap.size W w')
    (ht : ∀ W, Env W → Calls Tryz.prog 25 #[.agg #[.string h, .string t]] W fun e w' => e = .returned (.bool true) ∧ Below W.heap.size W w')
    (hcl : ∀ W, Below w.heap.size w W → Calls Tryz.prog 40 #[.slice A n c] W fun e w' => ∃ v', e = .returned v' ∧ SolAt w' v' n T ∧ Below W.heap.size W w')
    (hx : ∀ W v, Env W → SolAt W v n T → Calls Tryz.prog 39 #[v, .agg #[.string h, .string t]] W fun e w' => e = .returned (.tuple #[.agg #[.string x0, .string x1, .string x2, .string x3, .string x4, .string x5], .int .i64 cc]) ∧ Below W.heap.size W w')
    (hy : ∀ W, Below w.heap.size w W → Calls Tryz.prog 41 #[.slice A n c, .agg #[.string h, .string t]] W fun e w' => e = .returned (.tuple #[.agg #[.string x0, .string x1, .string x2, .string x3, .string x4, .string x5], .int .i64 cc]) ∧ Below W.heap.size W w') :
    Calls Tryz.prog 7 #[.slice A n c, .agg #[.string h, .string t]] w fun e w' => e = .returned (.bool true) ∧ Below w.heap.size w w' := by
  have H0 := Lib.hid (fun w hE => la16_awake w hE)
  have HS := Lib.hid hs
  have HT := Lib.hid ht
  have HCL := Lib.hid hcl
  have HX := Lib.hid hx
  have HY := Lib.hid hy
  have HE := Lib.hid hE
  clear hE hs ht hcl hx hy
  go_enter Tryz.func7, Tryz.ntmps7
  go_wp2_with fail
  generalize hW : World.alloc w _ = W
  obtain ⟨hB, hsz, R3⟩ := A1 hW
  have R3 := Lib.hid R3
  clear hW hsz
  refine (H0.out _ (HE.out.below hB)).mono ?_
  rintro e w1 ⟨rfl, hb⟩
  replace hB := bstep hB hb
  have R3 := Lib.hid (keep hb R3.out)
  clear hb
  go_wp2_with fail
  refine (HS.out _ hB).mono ?_
  rintro e w2 ⟨rfl, hb⟩
  replace hB := bstep hB hb
  have R3 := Lib.hid (keep hb R3.out)
  clear hb
  obtain ⟨c0, c1, f0, f1⟩ := row2 R3.out
  go_wp2_with fail
  clear c0 c1 f0 f1
  refine (HT.out _ (HE.out.below hB)).mono ?_
  rintro e w3 ⟨rfl, hb⟩
  replace hB := bstep hB hb
  have R3 := Lib.hid (keep hb R3.out)
  clear hb
  go_upto_region 5 with fail
  have T1 := Lib.hid (fun W (hb : Below w3.heap.size w3 W) => HCL.out W (bstep hB hb))
  have T2 := Lib.hid (fun W (hb : Below w3.heap.size w3 W) v' (k : SolAt W v' n T) => HX.out W v' (HE.out.below (bstep hB hb)) k)
  clear HS HT HCL HX H0
  go_cut [5, 6] (fun x y wc => ∃ (i : Nat), x = .pointer (some ⟨i, 0, none⟩) ∧ y = .int .i64 cc ∧ Hid (wc.heap[i]? = some (.cells #[.string x0, .string x1, .string x2, .string x3, .string x4, .string x5] 74 (0, 0))) ∧ Hid (Below w3.heap.size w3 wc))
  case first =>
    have LR3 := fun (w' : World) (h : Ap w3.heap.size w3.heap.size w3 w') => rowc2 (h.rowV R3.out)
    have hvr := Below.refl w3.heap.size w3
    have hv0 := hvr.drew
    first
    | go_region_held3 (fun w' => Ap w3.heap.size w3.heap.size w3 w') (first | (with_reducible assumption) | (with_reducible exact Ap.refl _ _ _) | ((repeat (first | with_reducible assumption | with_reducible exact Ap.refl _ _ _ | with_reducible refine Ap.drew ?_ | with_reducible refine Ap.alloc ?_ | with_reducible refine Ap.set1 ?_ | with_reducible refine Ap.set2 ?_ | with_reducible refine Ap.setN (by first | with_reducible assumption | with_reducible exact Nat.le_refl _ | with_reducible exact Nat.le_add_right _ _ | with_reducible exact Nat.le_trans (by assumption) (Nat.le_add_right _ _)) ?_)); done))
        (first
          | (go_at_call 40; (with_reducible refine (T1.out _ (by first | with_reducible exact hv0 | with_reducible exact bstep hv0 (A1 rfl).1 | with_reducible exact (bstep hv0 (A1 rfl).1).drew | with_reducible exact (bstep hvr (A1 rfl).1).drew)).mono ?_); rintro e wq0 ⟨vc, rfl, hk_c, hb⟩; have hv1 : Below w3.heap.size w3 wq0 := (by first | with_reducible exact bstep (hv0) hb | with_reducible exact bstep (bstep hv0 (A1 rfl).1) hb | with_reducible exact bstep ((bstep hv0 (A1 rfl).1).drew) hb | with_reducible exact bstep ((bstep hvr (A1 rfl).1).drew) hb); have hs1 := Ap.of_below (g := w3.heap.size) (h := w3.heap.size) hv1; have sz1 := hv1.size; (first | (have RN0 : RowKit.Hid (wq0.heap[w3.heap.size]? = some (.cells #[.string ⟨#[]⟩, .string ⟨#[]⟩, .string ⟨#[]⟩, .string ⟨#[]⟩, .string ⟨#[]⟩, .string ⟨#[]⟩] 74 (0, 0))) := Lib.hid (by first | exact one_new hb | exact one_newD hb)) | skip); (first | (have RNg := lt_of_row RN0.out; have RNh := Nat.ne_of_lt RNg; have RNi := Nat.ne_of_gt RNg) | skip); have KC := Lib.hid hk_c; clear hk_c; clear hb)
          | (go_at_call 39; (with_reducible refine (T2.out _ (by first | with_reducible exact hv1 | with_reducible exact bstep hv1 (A1 rfl).1 | with_reducible exact (bstep hv1 (A1 rfl).1).drew | with_reducible exact (bstep hvr (A1 rfl).1).drew) vc (by first | with_reducible exact KC.out | with_reducible exact (KC.out.below (Below.drew (Below.refl _ _))) | with_reducible exact (KC.out.below (A1 rfl).1) | with_reducible exact ((KC.out.below (A1 rfl).1).below (Below.drew (Below.refl _ _))))).mono ?_); rintro e wq1 ⟨rfl, hb⟩; have hv2 : Below w3.heap.size w3 wq1 := (by first | with_reducible exact bstep (hv1) hb | with_reducible exact bstep (bstep hv1 (A1 rfl).1) hb | with_reducible exact bstep ((bstep hv1 (A1 rfl).1).drew) hb | with_reducible exact bstep ((bstep hvr (A1 rfl).1).drew) hb); have hs2 := Ap.of_below (g := w3.heap.size) (h := w3.heap.size) hv2; have sz2 := hv2.size; have KC := Lib.hid (by first | with_reducible exact KC.out.below hb | with_reducible exact (KC.out.below (Below.drew (Below.refl _ _))).below hb | with_reducible exact (KC.out.below (A1 rfl).1).below hb | with_reducible exact ((KC.out.below (A1 rfl).1).below (Below.drew (Below.refl _ _))).below hb); (first | (with_reducible have RN0 := Lib.hid (keep hb RN0.out)) | (with_reducible have RN0 := Lib.hid (keep hb (old1 RN0.out))) | skip); (first | (have RN1 : RowKit.Hid (wq1.heap[wq0.heap.size]? = some (.cells #[.string ⟨#[]⟩, .string ⟨#[]⟩, .string ⟨#[]⟩, .string ⟨#[]⟩, .string ⟨#[]⟩, .string ⟨#[]⟩] 74 (0, 0))) := Lib.hid (by first | exact one_new hb | exact one_newD hb)) | skip); (first | (have RNg := lt_of_row RN1.out; have RNh := Nat.ne_of_lt RNg; have RNi := Nat.ne_of_gt RNg) | skip); (first | (have RNx := row6f RN0.out; obtain ⟨RNf00, RNf01, RNf02, RNf03, RNf04, RNf05, RNf06, RNf07, RNf08, RNf09, RNf010, RNf011⟩ := RNx) | skip); (first | (have RNx := row6f RN1.out; obtain ⟨RNf10, RNf11, RNf12, RNf13, RNf14, RNf15, RNf16, RNf17, RNf18, RNf19, RNf110, RNf111⟩ := RNx) | skip); clear hb))
    | fail
    all_goals
      go_wp2_with fail
      go_meet
      first
      | (have E := endN2 hv2 (.cells #[.string x0, .string x1, .string x2, .string x3, .string x4, .string x5] 74 (0, 0)); with_reducible exact ⟨_, rfl, rfl, Lib.hid E.1, Lib.hid E.2⟩)
      | (have E := end6 hv2 RN0.out (by first | exact Nat.le_refl _ | assumption) (.string x0) (.string x1) (.string x2) (.string x3) (.string x4) (.string x5); with_reducible exact ⟨_, rfl, rfl, Lib.hid E.1, Lib.hid E.2⟩)
      | (have E := end6 hv2 RN1.out (by first | exact Nat.le_refl _ | assumption) (.string x0) (.string x1) (.string x2) (.string x3) (.string x4) (.string x5); with_reducible exact ⟨_, rfl, rfl, Lib.hid E.1, Lib.hid E.2⟩)
  case rest =>
    obtain ⟨i5, rfl, rfl, R5, hbw⟩ := hcut
    have hb := hbw.out
    have R3 := Lib.hid (keep hb R3.out)
    replace hB := bstep hB hb
    clear hb hbw T1 T2
    obtain ⟨c0, c1, f0, f1⟩ := row2 R3.out
    go_wp2_with fail
    clear c0 c1 f0 f1
    refine (HY.out _ hB).mono ?_
    rintro e w5 ⟨rfl, hb⟩
    replace hB := bstep hB hb
    have R5 := Lib.hid (keep hb R5.out)
    clear hb
    go_upto_region 7 with fail
    generalize hW : World.alloc _ _ = Y
    obtain ⟨hb, hsz, R7⟩ := A1 hW
    replace hB := bstep hB hb
    have R5 := Lib.hid (keep hb R5.out)
    clear hb
    have R7 := Lib.hid R7
    clear hW hsz
    obtain ⟨c0, c1, c2, c3, c4, c5⟩ := rowc6 R5.out
    obtain ⟨d0, d1, d2, d3, d4, d5⟩ := rowc6 R7.out
    go_wp2_with fail
    go_ret
    exact ⟨rfl, hB⟩

end Go.Proofs.YthkkdepppjiaeaaGreatDoor

/- The law AttitudeExtents answers true at whatever solid and texts. -/
namespace Go.Proofs.YthkkdepppjiaeaaGreatDoor
open Go.RowKit Go.Shelf Go.Sort

theorem low_rng (S : Nat → V3) (a : V3) (L : Nat → Rat) (h0 : L 1 = dotV (S 0) a) (hs : ∀ k, L (k + 2) = lst16 (L (k + 1)) (dotV (S (k + 1)) a)) : ∀ k, L (k + 1) = (rng S a k).1
  | 0 => h0
  | k + 1 => by
    rw [hs k, low_rng S a L h0 hs k]
    show lst16 _ _ = (if cmpQ (dotV (S (k + 1)) a - (rng S a k).1) 0 < 0 then dotV (S (k + 1)) a else (rng S a k).1)
    generalize (rng S a k).1 = lo
    generalize dotV (S (k + 1)) a = x
    unfold lst16
    by_cases h : x < lo
    · rw [if_pos (by rw [cmpQ_neg]; exact h), if_pos (by rw [cmpQ_neg]; grind)]
    · rw [if_neg (by rw [cmpQ_neg]; exact h), if_neg (by rw [cmpQ_neg]; grind)]
theorem high_rng (S : Nat → V3) (a : V3) (L : Nat → Rat) (h0 : L 1 = dotV (S 0) a) (hs : ∀ k, L (k + 2) = mst16 (L (k + 1)) (dotV (S (k + 1)) a)) : ∀ k, L (k + 1) = (rng S a k).2
  | 0 => h0
  | k + 1 => by
    rw [hs k, high_rng S a L h0 hs k]
    show mst16 _ _ = (if 0 < cmpQ (dotV (S (k + 1)) a - (rng S a k).2) 0 then dotV (S (k + 1)) a else (rng S a k).2)
    generalize (rng S a k).2 = hi
    generalize dotV (S (k + 1)) a = x
    unfold mst16
    by_cases h : hi < x
    · rw [if_pos (by rw [cmpQ_neg]; exact h), if_pos (by rw [cmpQ_gt]; grind)]
    · rw [if_neg (by rw [cmpQ_neg]; exact h), if_neg (by rw [cmpQ_gt]; grind)]
theorem lst_self (x : Rat) : lst16 x x = x := by unfold lst16; split <;> rfl
theorem mst_self (x : Rat) : mst16 x x = x := by unfold mst16; split <;> rfl

theorem low_x (p q : Rat) (S : Nat → V3) (k : Nat) : (lowR (fun i => turnV p q (S i)) (k + 1)).x = (rng S (axA p q) k).1 :=
  low_rng S (axA p q) (fun m => (lowR (fun i => turnV p q (S i)) m).x) (by rw [← dotV_comm]; exact lst_self _) (fun k => by rw [← dotV_comm]; rfl) k
theorem high_x (p q : Rat) (S : Nat → V3) (k : Nat) : (highR (fun i => turnV p q (S i)) (k + 1)).x = (rng S (axA p q) k).2 :=
  high_rng S (axA p q) (fun m => (highR (fun i => turnV p q (S i)) m).x) (by rw [← dotV_comm]; exact mst_self _) (fun k => by rw [← dotV_comm]; rfl) k
theorem low_y (p q : Rat) (S : Nat → V3) (k : Nat) : (lowR (fun i => turnV p q (S i)) (k + 1)).y = (rng S (axS p) k).1 :=
  low_rng S (axS p) (fun m => (lowR (fun i => turnV p q (S i)) m).y) (by rw [← dotV_comm]; exact lst_self _) (fun k => by rw [← dotV_comm]; rfl) k
theorem high_y (p q : Rat) (S : Nat → V3) (k : Nat) : (highR (fun i => turnV p q (S i)) (k + 1)).y = (rng S (axS p) k).2 :=
  high_rng S (axS p) (fun m => (highR (fun i => turnV p q (S i)) m).y) (by rw [← dotV_comm]; exact mst_self _) (fun k => by rw [← dotV_comm]; rfl) k
theorem low_z (p q : Rat) (S : Nat → V3) (k : Nat) : (lowR (fun i => turnV p q (S i)) (k + 1)).z = (rng S (axU p q) k).1 :=
  low_rng S (axU p q) (fun m => (lowR (fun i => turnV p q (S i)) m).z) (by rw [← dotV_comm]; exact lst_self _) (fun k => by rw [← dotV_comm]; rfl) k
theorem high_z (p q : Rat) (S : Nat → V3) (k : Nat) : (highR (fun i => turnV p q (S i)) (k + 1)).z = (rng S (axU p q) k).2 :=
  high_rng S (axU p q) (fun m => (highR (fun i => turnV p q (S i)) m).z) (by rw [← dotV_comm]; exact mst_self _) (fun k => by rw [← dotV_comm]; rfl) k
theorem at_ExtentY (n : Nat) (T : Nat → ByteArray × ByteArray × ByteArray) (s : ByteArray × ByteArray) (hn : n ≤ 24) (hT : ∀ i, i < n * 3 → sh40 (T i) = true) (h1 : s.1.size ≤ 40) (h2 : s.2.size ≤ 40) (h0 : n ≠ 0) (hav : allB (n * 3) T = true ∧ (rvB s.1 && rvB s.2) = true) (hin : inR (rvX s.1) (rvX s.2) = true) :
    ∀ W v, Env W → SolAt W v n T → Calls Tryz.prog 39 #[v, .agg #[.string s.1, .string s.2]] W fun e w' => e = .returned (.tuple #[.agg #[.string (rs (rng (fun i => vvX (T i)) (axA (rvX s.1) (rvX s.2)) (n * 3 - 1)).1), .string (rs (rng (fun i => vvX (T i)) (axA (rvX s.1) (rvX s.2)) (n * 3 - 1)).2), .string (rs (rng (fun i => vvX (T i)) (axS (rvX s.1)) (n * 3 - 1)).1), .string (rs (rng (fun i => vvX (T i)) (axS (rvX s.1)) (n * 3 - 1)).2), .string (rs (rng (fun i => vvX (T i)) (axU (rvX s.1) (rvX s.2)) (n * 3 - 1)).1), .string (rs (rng (fun i => vvX (T i)) (axU (rvX s.1) (rvX s.2)) (n * 3 - 1)).2)], .int .i64 0]) ∧ Below W.heap.size W w' := by
  have hs := fun i (hi : i < n * 3) => sh40_iff.1 (hT i hi)
  have fw : ∀ {k : Nat}, k ≤ 40 → k ≤ 10000000 := fun h => Nat.le_trans h (by decide)
  have hSh : ∀ i, i < n * 3 → ShV (T i) := fun i hi => ⟨fw (hs i hi).1, fw (hs i hi).2.1, fw (hs i hi).2.2⟩
  have hS : ∀ A c W, Calls Tryz.prog 80 #[.slice A n c] W fun e w' => e = .returned (.int .i64 0) ∧ Below W.heap.size W w' := fun A c W => at_solid_ok A n c W (by omega) (by omega)
  have hN := fun W hE => at_numbers s W hE (Nat.le_trans h1 (by decide)) (Nat.le_trans h2 (by decide))
  have hC := fun W hE => at_Check s W hE (Nat.le_trans h1 (by decide)) (Nat.le_trans h2 (by decide))
  have hV : ∀ W (hE : Env W) b o c, VecsAt W b o (n * 3) T → Calls Tryz.prog 81 #[.slice (some ⟨b, o, none⟩) n c] W fun e w' => e = .returned (.bool (allB (n * 3) T)) ∧ Below W.heap.size W w' := fun W hE b o c hA => at_valid b o n c T W hE (by omega) hA hSh
  rw [hav.2] at hN
  rw [hav.1] at hV
  intro W v hE hv
  obtain ⟨A, c, rfl, hc1, hc2, hl⟩ := hv
  rcases hl with hl | ⟨b, o, rfl, hl⟩
  · exact absurd hl h0
  rw [hav.2, hin] at hC
  obtain ⟨e1, e2⟩ := at_texts hav.2
  have z1 : Sz 41 (rvX s.1) := sz_rvX h1 (by decide)
  have z2 : Sz 41 (rvX s.2) := sz_rvX h2 (by decide)
  have hX := fun W hE => at_axes (rvX s.1) (rvX s.2) W hE (z1.mono (by decide)) (z2.mono (by decide)) hin
  rw [← e1, ← e2] at hX
  have sz : ∀ i, i < n * 3 → SzV 41 (vvX (T i)) := fun i hi => ⟨sz_rvX (hs i hi).1 (by decide), sz_rvX (hs i hi).2.1 (by decide), sz_rvX (hs i hi).2.2 (by decide)⟩
  have R : ∀ ax : V3, SzV (32 * 41 + 16) ax → ∀ W v, Env W → PtsAt W v (n * 3) T → Calls Tryz.prog 84 #[v, vV ax] W fun e w' => e = .returned (.tuple #[.agg #[.string (rs (rng (fun i => vvX (T i)) ax (n * 3 - 1)).1), .string (rs (rng (fun i => vvX (T i)) ax (n * 3 - 1)).2)], .int .i64 0]) ∧ Below W.heap.size W w' := by
    intro ax zax W v hE hp
    obtain ⟨A, c, rfl, k1, k2, hl⟩ := hp
    rcases hl with hl | ⟨b, o, rfl, hl⟩
    · omega
    have hl' : VecsAt W b o (n * 3) (txV fun i => vvX (T i)) := by
      intro i hi
      obtain ⟨q0, q1, q2⟩ := hl i hi
      have et := vv_text (allB_iff.1 hav.1 i hi)
      rw [et] at q0 q1 q2
      exact ⟨q0, q1, q2⟩
    exact ve_RangeL b o (n * 3) c _ _ W hE (by omega) (by omega) (by omega) k2 hl' (fun i hi => (sz i hi).mono (by decide)) (zax.mono (by decide))
  exact at_Extent_ok b o n c T s.1 s.2 _ _ _ _ _ _ _ _ _ _ _ _ _ _ _ _ _ _ W hE (by omega) hl (fun W' _ => hS _ c W') (fun W' hB => hV W' (hE.below hB) b o c (hl.below hB)) (fun W' hB => hN W' (hE.below hB)) (fun W' hB => hC W' (hE.below hB)) hX
    (R _ (szV_axA z1 z2)) (R _ (szV_axS z1 (by decide))) (R _ (szV_axU z1 z2))

/-- What both answer. -/
theorem la16_both (n : Nat) (T : Nat → ByteArray × ByteArray × ByteArray) (h t : ByteArray) (hn : n ≤ 24 ∨ n = 513) (hT : n ≤ 24 → ∀ i, i < n * 3 → sh40 (T i) = true) (h1 : h.size ≤ 40) (h2 : t.size ≤ 40) :
    ∃ (x0 x1 x2 x3 x4 x5 : ByteArray) (cc : Int), (∀ W v, Env W → SolAt W v n T → Calls Tryz.prog 39 #[v, .agg #[.string h, .string t]] W fun e w' => e = .returned (.tuple #[.agg #[.string x0, .string x1, .string x2, .string x3, .string x4, .string x5], .int .i64 cc]) ∧ Below W.heap.size W w') ∧
      (∀ W A c, (n = 0 ∨ ∃ b o, A = some ⟨b, o, none⟩ ∧ VecsAt W b o (n * 3) T) → Calls Tryz.prog 41 #[.slice A n c, .agg #[.string h, .string t]] W fun e w' => e = .returned (.tuple #[.agg #[.string x0, .string x1, .string x2, .string x3, .string x4, .string x5], .int .i64 cc]) ∧ Below W.heap.size W w') := by
  by_cases h0 : n = 0
  · refine ⟨⟨#[]⟩, ⟨#[]⟩, ⟨#[]⟩, ⟨#[]⟩, ⟨#[]⟩, ⟨#[]⟩, 9, fun W v hE hv => ?_, fun W A c _ => ?_⟩
    rotate_left
    · exact r16_Extent_err A n c h t 9 W rfl fun W' _ => r16_Start_none A n c h t W' h0
    · obtain ⟨A, c, rfl, _⟩ := hv
      exact at_Extent_size A n c h t 9 W rfl (fun W' _ => at_solid_none A n c W' h0)
  by_cases h5 : 512 < n
  · refine ⟨⟨#[]⟩, ⟨#[]⟩, ⟨#[]⟩, ⟨#[]⟩, ⟨#[]⟩, ⟨#[]⟩, 8, fun W v hE hv => ?_, fun W A c _ => ?_⟩
    rotate_left
    · exact r16_Extent_err A n c h t 8 W rfl fun W' _ => r16_Start_long A n c h t W' h5
    · obtain ⟨A, c, rfl, _⟩ := hv
      exact at_Extent_size A n c h t 8 W rfl (fun W' _ => at_solid_long A n c W' h5)
  have n1 : 1 ≤ n := by omega
  have n2 : n ≤ 512 := by omega
  have n24 : n ≤ 24 := by omega
  have hs := fun i (hi : i < n * 3) => sh40_iff.1 (hT n24 i hi)
  have fw : ∀ {k : Nat}, k ≤ 40 → k ≤ 10000000 := fun h => Nat.le_trans h (by decide)
  have hSh : ∀ i, i < n * 3 → ShV (T i) := fun i hi => ⟨fw (hs i hi).1, fw (hs i hi).2.1, fw (hs i hi).2.2⟩
  have hS : ∀ A c W, Calls Tryz.prog 80 #[.slice A n c] W fun e w' => e = .returned (.int .i64 0) ∧ Below W.heap.size W w' := fun A c W => at_solid_ok A n c W (by omega) (by omega)
  have hN := fun W hE => at_numbers (h, t) W hE (Nat.le_trans h1 (by decide)) (Nat.le_trans h2 (by decide))
  have hC := fun W hE => at_Check (h, t) W hE (Nat.le_trans h1 (by decide)) (Nat.le_trans h2 (by decide))
  have hV : ∀ W (hE : Env W) b o c, VecsAt W b o (n * 3) T → Calls Tryz.prog 81 #[.slice (some ⟨b, o, none⟩) n c] W fun e w' => e = .returned (.bool (allB (n * 3) T)) ∧ Below W.heap.size W w' := fun W hE b o c hA => at_valid b o n c T W hE (by omega) hA hSh
  have u1 := Nat.le_trans h1 (show 40 ≤ 100 by decide)
  have u2 := Nat.le_trans h2 (show 40 ≤ 100 by decide)
  have hVec := fun i (hi : i < n * 3) W => r16_Vec (T i) W ⟨Nat.le_trans (hs i hi).1 (by decide), Nat.le_trans (hs i hi).2.1 (by decide), Nat.le_trans (hs i hi).2.2 (by decide)⟩
  have hTy : allB (n * 3) T = true → ∀ W b o c, VecsAt W b o (n * 3) T → Calls Tryz.prog 127 #[.slice (some ⟨b, o, none⟩) n c] W fun e w' => (∃ (v : Value) (U : Nat → VS), e = .returned (.tuple #[v, .bool true]) ∧ w'.ownsRow W.heap.size 192 27 v n (vtl (fun i => vvX (T i)) U (n * 3)) ∧ (∀ j, j < n * 3 → RV w' (U j) (vvX (T j)))) ∧ Below W.heap.size W w' := by
    intro ha W b o c hA
    refine (r16_Triangles_run b o n c n T (fun i => vvX (T i)) (fun i => vvB (T i)) W n1 n2 hA (Nat.le_refl _) (fun i hi => allB_iff.1 ha i hi) (fun k => absurd k (Nat.lt_irrefl _)) hVec).mono fun e w' ⟨k, hb⟩ => ?_
    rw [if_pos rfl] at k
    exact ⟨k, hb⟩
  have hTn : allB (n * 3) T = false → ∀ W b o c, VecsAt W b o (n * 3) T → Calls Tryz.prog 127 #[.slice (some ⟨b, o, none⟩) n c] W fun e w' => (∃ v, e = .returned (.tuple #[v, .bool false])) ∧ Below W.heap.size W w' := by
    intro ha W b o c hA
    rcases first_bad (fun i => vvB (T (i * 3 + 0)) && vvB (T (i * 3 + 1)) && vvB (T (i * 3 + 2))) n with hall | ⟨m, m1, m2, m3⟩
    · exfalso
      have k : allB (n * 3) T = true := by
        refine allB_iff.2 fun i hi => ?_
        have e := hall (i / 3) (by omega)
        rw [Bool.and_eq_true, Bool.and_eq_true] at e
        have h3 : i % 3 = 0 ∨ i % 3 = 1 ∨ i % 3 = 2 := by omega
        rcases h3 with h3 | h3 | h3
        · rw [show i = i / 3 * 3 + 0 by omega]; exact e.1.1
        · rw [show i = i / 3 * 3 + 1 by omega]; exact e.1.2
        · rw [show i = i / 3 * 3 + 2 by omega]; exact e.2
      rw [ha] at k
      cases k
    · refine (r16_Triangles_run b o n c m T (fun i => vvX (T i)) (fun i => vvB (T i)) W n1 n2 hA (by omega) ?_ (fun _ => m2) hVec).mono fun e w' ⟨k, hb⟩ => ?_
      · intro i hi
        have e := m3 (i / 3) (by omega)
        simp only [Bool.and_eq_true] at e
        have h3 : i % 3 = 0 ∨ i % 3 = 1 ∨ i % 3 = 2 := by omega
        rcases h3 with h3 | h3 | h3
        · rw [show i = i / 3 * 3 + 0 by omega]; exact e.1.1
        · rw [show i = i / 3 * 3 + 1 by omega]; exact e.1.2
        · rw [show i = i / 3 * 3 + 2 by omega]; exact e.2
      · rw [if_neg (by omega)] at k
        exact ⟨⟨_, k⟩, hb⟩
  cases hav : (allB (n * 3) T && (rvB h && rvB t)) with
  | false =>
    refine ⟨⟨#[]⟩, ⟨#[]⟩, ⟨#[]⟩, ⟨#[]⟩, ⟨#[]⟩, ⟨#[]⟩, 1, fun W v hE hv => ?_, fun W A c hl => ?_⟩
    rotate_left
    · rcases hl with hl | ⟨b, o, rfl, hl⟩
      · exact absurd hl h0
      refine r16_Extent_err _ n c h t 1 W rfl fun W' hB => ?_
      have hl' := hl.below hB
      cases ha : allB (n * 3) T with
      | false =>
        cases hk : ((rvB h && rvB t) && inR (rvX h) (rvX t)) with
        | false => exact r16_Start_err _ n c h t false _ W' n1 n2 (acode_ne hk) (fun W'' hb => hTn ha W'' b o c (hl'.below hb)) (fun w => r16_FrameOf_err h t w u1 u2 hk)
        | true => exact r16_Start_bad _ n c h t _ _ _ _ _ _ _ _ _ W' n1 n2 (fun W'' hb => hTn ha W'' b o c (hl'.below hb)) (fun w => (r16_FrameOf_yes h t w u1 u2 hk).mono fun e w' ⟨fA, fS, fU, e1, _, _, _, hb⟩ => ⟨fA, fS, fU, e1, hb⟩)
      | true =>
        rw [ha, Bool.true_and] at hav
        have hk : ((rvB h && rvB t) && inR (rvX h) (rvX t)) = false := by rw [hav]; rfl
        have k := r16_Start_err (some ⟨b, o, none⟩) n c h t true _ W' n1 n2 (acode_ne hk) (fun W'' hb => (hTy ha W'' b o c (hl'.below hb)).mono fun e w' ⟨⟨v, _, e1, _⟩, hb⟩ => ⟨⟨v, e1⟩, hb⟩) (fun w => r16_FrameOf_err h t w u1 u2 hk)
        rw [hav, if_pos rfl] at k
        exact k
    · obtain ⟨A, c, rfl, _, _, hl⟩ := hv
      rcases hl with hl | ⟨b, o, rfl, hl⟩
      · exact absurd hl h0
      exact at_Extent_bad _ n c h t _ _ W hav (fun W' _ => hS _ c W') (fun W' hB => hV W' (hE.below hB) b o c (hl.below hB)) (fun W' hB => hN W' (hE.below hB))
  | true =>
    rw [Bool.and_eq_true] at hav
    cases hin : inR (rvX h) (rvX t) with
    | false =>
      have hk : ((rvB h && rvB t) && inR (rvX h) (rvX t)) = false := by rw [hin, Bool.and_false]
      refine ⟨⟨#[]⟩, ⟨#[]⟩, ⟨#[]⟩, ⟨#[]⟩, ⟨#[]⟩, ⟨#[]⟩, acode (rvB h && rvB t) (inR (rvX h) (rvX t)), fun W v hE hv => ?_, fun W A c hl => ?_⟩
      rotate_left
      · rcases hl with hl | ⟨b, o, rfl, hl⟩
        · exact absurd hl h0
        refine r16_Extent_err _ n c h t _ W (acode_ne hk) fun W' hB => ?_
        have hl' := hl.below hB
        have k := r16_Start_err (some ⟨b, o, none⟩) n c h t true _ W' n1 n2 (acode_ne hk) (fun W'' hb => (hTy hav.1 W'' b o c (hl'.below hb)).mono fun e w' ⟨⟨v, _, e1, _⟩, hb⟩ => ⟨⟨v, e1⟩, hb⟩) (fun w => r16_FrameOf_err h t w u1 u2 hk)
        rw [if_pos rfl] at k
        exact k
      · obtain ⟨A, c, rfl, _, _, hl⟩ := hv
        rcases hl with hl | ⟨b, o, rfl, hl⟩
        · exact absurd hl h0
        rw [hav.2] at hN
        rw [hav.1] at hV
        exact at_Extent_err _ n c h t _ W (acode_ne hk) (fun W' _ => hS _ c W') (fun W' hB => hV W' (hE.below hB) b o c (hl.below hB)) (fun W' hB => hN W' (hE.below hB)) (fun W' hB => hC W' (hE.below hB))
    | true =>
      have hk : ((rvB h && rvB t) && inR (rvX h) (rvX t)) = true := by rw [hav.2, hin]; rfl
      have hx := at_ExtentY n T (h, t) n24 (hT n24) h1 h2 h0 hav hin
      · have z1 : Sz 41 (rvX h) := sz_rvX h1 (by decide)
        have z2 : Sz 41 (rvX t) := sz_rvX h2 (by decide)
        have zT : ∀ i, i < n * 3 → SzV 41 (vvX (T i)) := fun i hi => ⟨sz_rvX (hs i hi).1 (by decide), sz_rvX (hs i hi).2.1 (by decide), sz_rvX (hs i hi).2.2 (by decide)⟩
        refine ⟨_, _, _, _, _, _, 0, hx, ?_⟩
        intro W A c hl
        rcases hl with hl | ⟨b, o, rfl, hl⟩
        · exact absurd hl h0
        have zA := szV_axA z1 z2
        have zS := szV_axS z1 (show 1 ≤ 41 by decide)
        have zU := szV_axU z1 z2
        have hTu := fun m (hm : m < n * 3) w fA fS fU u k1 k2 k3 k4 => r16_Turned (axA (rvX h) (rvX t)) (axS (rvX h)) (axU (rvX h) (rvX t)) (vvX (T m)) fA fS fU u w k1 k2 k3 k4 (zA.mono (by decide)) (zS.mono (by decide)) (zU.mono (by decide)) ((zT m hm).mono (by decide))
        have k := r16_Extent_ok b o n c h t _ _ _ _ _ _ _ _ _ (fun i => turnV (rvX h) (rvX t) (vvX (T i))) W n1 n2 (fun v hv => (szV_turn z1 z2 (zT v hv) (by decide)).mono (by decide))
          (fun W' hB => r16_Start_ok b o n c h t _ _ _ _ _ _ _ _ _ (axA (rvX h) (rvX t)) (axS (rvX h)) (axU (rvX h) (rvX t)) (fun i => vvX (T i)) (fun i => turnV (rvX h) (rvX t) (vvX (T i))) W' n1 n2 (fun W'' hb => hTy hav.1 W'' b o c ((hl.below hB).below hb)) (fun w => r16_FrameOf_yes h t w u1 u2 hk) hTu)
        have en : n * 3 = n * 3 - 1 + 1 := by omega
        rw [en] at k
        rw [low_x, high_x, low_y, high_y, low_z, high_z] at k
        exact k


theorem la_extents (A : Option Addr) (n c : Nat) (T : Nat → ByteArray × ByteArray × ByteArray) (h t : ByteArray) (w : World) (hE : Env w) (hA : A = none → n = 0) (hl : n = 0 ∨ ∃ b o, A = some ⟨b, o, none⟩ ∧ VecsAt w b o (n * 3) T) (hn : n ≤ 9223372036854775807)
    (hT : ∀ i, i < n * 3 → Mx (T i)) (hm : h.size ≤ 9223372036854775807 ∧ t.size ≤ 9223372036854775807) :
    Calls Tryz.prog 7 #[.slice A n c, .agg #[.string h, .string t]] w fun e w' => e = .returned (.bool true) ∧ Below w.heap.size w w' := by
  have hlB : ∀ W, Below w.heap.size w W → (n = 0 ∨ ∃ b o, A = some ⟨b, o, none⟩ ∧ VecsAt W b o (n * 3) T) := fun W hB => hl.imp id fun ⟨b, o, e, h⟩ => ⟨b, o, e, h.below hB⟩
  have hT2 : ∀ W, Env W → Calls Tryz.prog 25 #[.agg #[.string h, .string t]] W fun e w' => e = .returned (.bool (decide (h.size ≤ 40) && decide (t.size ≤ 40))) ∧ Below W.heap.size W w' := fun W _ => r16_ShortA h t W hm.1 hm.2
  have hS : ∀ r, (n = 513 → r = true) → (n ≠ 513 → (∀ i, i < n * 3 → sh40 (T i) = true) → r = decide (n ≤ 24)) → (n ≠ 513 → (∃ i, i < n * 3 ∧ sh40 (T i) = false) → r = false) → ∀ W, Below w.heap.size w W → Calls Tryz.prog 38 #[.slice A n c] W fun e w' => e = .returned (.bool r) ∧ Below W.heap.size W w' := by
    intro r h1 h2 h3 W hB
    by_cases h5 : n = 513
    · exact r16_ShortS_513 A n c r W h5 (h1 h5)
    · by_cases h0 : n = 0
      · refine r16_ShortS_0 A n c r W h0 ?_
        rw [h2 h5 (fun i hi => absurd hi (by omega)), h0]
        rfl
      · rcases hlB W hB with k | ⟨b, o, rfl, k⟩
        · exact absurd k h0
        exact r16_ShortS_run b o n c T r W hn h5 k hT (h2 h5) (h3 h5)
  have yes : n ≤ 24 ∨ n = 513 → (n ≤ 24 → ∀ i, i < n * 3 → sh40 (T i) = true) → (∀ W, Below w.heap.size w W → Calls Tryz.prog 38 #[.slice A n c] W fun e w' => e = .returned (.bool true) ∧ Below W.heap.size W w') →
      Calls Tryz.prog 7 #[.slice A n c, .agg #[.string h, .string t]] w fun e w' => e = .returned (.bool true) ∧ Below w.heap.size w w' := by
    intro hn2 hall hs
    by_cases ha : h.size ≤ 40 ∧ t.size ≤ 40
    · obtain ⟨s1, s2⟩ := ha
      simp only [decide_eq_true s1, decide_eq_true s2, Bool.and_self] at hT2
      obtain ⟨x0, x1, x2, x3, x4, x5, cc, k1, k2⟩ := la16_both n T h t hn2 hall s1 s2
      exact la16_ext_yes A n c h t x0 x1 x2 x3 x4 x5 cc T w hE hs hT2 (fun W hB => la_cloneS A n c T W (by omega) hA (hlB W hB)) k1 (fun W hB => k2 W A c (hlB W hB))
    · refine la16_ext_no A n c h t true _ w hE ?_ hs hT2
      rw [Bool.true_and, Bool.eq_false_iff]
      intro q
      rw [Bool.and_eq_true, decide_eq_true_iff, decide_eq_true_iff] at q
      exact ha q
  by_cases h5 : n = 513
  · exact yes (.inr h5) (fun k => absurd k (by omega)) (hS true (fun _ => rfl) (fun k => absurd h5 k) (fun k => absurd h5 k))
  by_cases hall : ∀ i, i < n * 3 → sh40 (T i) = true
  · by_cases h24 : n ≤ 24
    · exact yes (.inl h24) (fun _ => hall) (hS true (fun _ => rfl) (fun _ _ => by rw [decide_eq_true h24]) (fun _ ⟨i, hi, k⟩ => by rw [hall i hi] at k; cases k))
    · exact la16_ext_no A n c h t false _ w hE rfl (hS false (fun k => absurd k h5) (fun _ _ => by rw [decide_eq_false h24]) (fun _ _ => rfl)) hT2
  · exact la16_ext_no A n c h t false _ w hE rfl (hS false (fun k => absurd k h5) (fun _ k => absurd k hall) (fun _ _ => rfl)) hT2
end Go.Proofs.YthkkdepppjiaeaaGreatDoor
