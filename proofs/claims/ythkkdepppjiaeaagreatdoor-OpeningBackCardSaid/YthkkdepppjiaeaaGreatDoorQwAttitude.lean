/- A PART OF THE PROOF, JOINED OUT OF 3 TEXTS. -/
import Derived.Test.YthkkdepppjiaeaaGreatDoorQvAttitude
import Derived.Test.YthkkdepppjiaeaaGreatDoorPnLaw
import Derived.Test.YthkkdepppjiaeaaGreatDoorPoLaw
/- attitude.Turn at whatever texts; the example of the chapter. -/
namespace Go.Proofs.YthkkdepppjiaeaaGreatDoor
open Go.RowKit Go.Shelf Go.Sort

attribute [local go_sem] Oper.semAt_some vec_guard vec_eq

theorem at_pointA (s : ByteArray × ByteArray) (r : ByteArray × ByteArray × ByteArray) (w : World) (hE : Env w) (h1 : s.1.size ≤ 40) (h2 : s.2.size ≤ 40) (hr : ShV r) :
    Calls Tryz.prog 103 #[.agg #[.string s.1, .string s.2], txW r] w fun e w' => e = .returned (.int .i64 (acode ((rvB s.1 && rvB s.2) && vvB r) (inR (rvX s.1) (rvX s.2)))) ∧ Below w.heap.size w w' := by
  have h := at_point_aux s.1 s.2 r.1 r.2.1 r.2.2 (rvB s.1 && rvB s.2) (vvB r) (acode (rvB s.1 && rvB s.2) (inR (rvX s.1) (rvX s.2))) w hE (fun w hE => at_numbers s w hE (Nat.le_trans h1 (by decide)) (Nat.le_trans h2 (by decide)))
    (fun w hE => ve_Valid r.1 r.2.1 r.2.2 w hE hr.1 hr.2.1 hr.2.2) (fun w hE => at_Check s w hE (Nat.le_trans h1 (by decide)) (Nat.le_trans h2 (by decide)))
  have e : (if ((rvB s.1 && rvB s.2) && vvB r) = true then acode (rvB s.1 && rvB s.2) (inR (rvX s.1) (rvX s.2)) else 1) = acode ((rvB s.1 && rvB s.2) && vvB r) (inR (rvX s.1) (rvX s.2)) := by
    unfold acode
    cases (rvB s.1 && rvB s.2) <;> cases vvB r <;> rfl
  rwa [e] at h
theorem at_TurnA (s : ByteArray × ByteArray) (r : ByteArray × ByteArray × ByteArray) (w : World) (hE : Env w) (h1 : s.1.size ≤ 40) (h2 : s.2.size ≤ 40) (h3 : r.1.size ≤ 40) (h4 : r.2.1.size ≤ 40) (h5 : r.2.2.size ≤ 40) :
    Calls Tryz.prog 62 #[.agg #[.string s.1, .string s.2], txW r] w fun e w' => e = .returned (.tuple #[vres (((rvB s.1 && rvB s.2) && vvB r) && inR (rvX s.1) (rvX s.2)) (turnV (rvX s.1) (rvX s.2) (vvX r)), .int .i64 (acode ((rvB s.1 && rvB s.2) && vvB r) (inR (rvX s.1) (rvX s.2)))]) ∧ Below w.heap.size w w' := by
  have fw : ∀ {k : Nat}, k ≤ 40 → k ≤ 10000000 := fun h => Nat.le_trans h (by decide)
  have hP := fun w hE => at_pointA s r w hE h1 h2 ⟨fw h3, fw h4, fw h5⟩
  cases hk : (((rvB s.1 && rvB s.2) && vvB r) && inR (rvX s.1) (rvX s.2)) with
  | false => exact at_Turn_err _ _ _ _ _ _ w hE (acode_ne hk) hP
  | true =>
    rw [Bool.and_eq_true, Bool.and_eq_true] at hk
    obtain ⟨e1, e2⟩ := at_texts hk.1.1
    have er := vv_text hk.1.2
    have z1 : Sz 41 (rvX s.1) := sz_rvX h1 (by decide)
    have z2 : Sz 41 (rvX s.2) := sz_rvX h2 (by decide)
    have zr : SzV 41 (vvX r) := ⟨sz_rvX h3 (by decide), sz_rvX h4 (by decide), sz_rvX h5 (by decide)⟩
    have ec : acode ((rvB s.1 && rvB s.2) && vvB r) (inR (rvX s.1) (rvX s.2)) = 0 := by rw [hk.1.1, hk.1.2, hk.2]; rfl
    rw [ec] at hP ⊢
    have hA := fun w hE => at_axes (rvX s.1) (rvX s.2) w hE (z1.mono (by decide)) (z2.mono (by decide)) hk.2
    rw [← e1, ← e2] at hA
    have D0 := fun w hE => ve_Dot (axA (rvX s.1) (rvX s.2)) (vvX r) w hE ((szV_axA z1 z2).mono (by decide)) (zr.mono (by decide))
    have D1 := fun w hE => ve_Dot (axS (rvX s.1)) (vvX r) w hE ((szV_axS z1 (by decide)).mono (by decide)) (zr.mono (by decide))
    have D2 := fun w hE => ve_Dot (axU (rvX s.1) (rvX s.2)) (vvX r) w hE ((szV_axU z1 z2).mono (by decide)) (zr.mono (by decide))
    unfold vV at D0 D1 D2
    rw [← show r.1 = rs (vvX r).x from congrArg Prod.fst er, ← show r.2.1 = rs (vvX r).y from congrArg (fun q => q.2.1) er, ← show r.2.2 = rs (vvX r).z from congrArg (fun q => q.2.2) er] at D0 D1 D2
    exact at_Turn_ok _ _ _ _ _ _ _ _ _ _ _ _ _ _ _ _ _ w hE hP hA D0 D1 D2

theorem x_cos : cosQ (1 / 2) = 3 / 5 := by decide +kernel
theorem x_sin : sinQ (1 / 2) = 4 / 5 := by decide +kernel
theorem x_cos0 : cosQ 0 = 1 := by decide +kernel
theorem x_sin0 : sinQ 0 = 0 := by decide +kernel
theorem x_axW : axW (1 / 2) 0 = .agg #[.string (rs 1), .string (rs 0), .string (rs 0), .string (rs 0), .string (rs (3 / 5)), .string (rs (4 / 5)), .string (rs 0), .string (rs (-(4 / 5))), .string (rs (3 / 5))] := by
  unfold axW axA axS axU
  simp only [x_cos, x_sin, x_cos0, x_sin0]
  rw [show -((4 : Rat) / 5 * 0) = 0 by decide +kernel, show (3 : Rat) / 5 * 0 = 0 by decide +kernel, show -(0 : Rat) = 0 by decide +kernel, show -((4 : Rat) / 5 * 1) = -(4 / 5) by decide +kernel, show (3 : Rat) / 5 * 1 = 3 / 5 by decide +kernel]
theorem lit_f {x : Rat} {k d : Nat} {b c : UInt8} (h1 : x.num = (k : Int)) (h2 : x.den = d) (hk : k < 10) (hd : d < 10) (h3 : d ≠ 1) (hb : b = UInt8.ofNat (48 + k)) (hc : c = UInt8.ofNat (48 + d)) : rs x = ⟨#[b, 47, c]⟩ := by
  rw [rs_frac (by rw [h2]; exact h3), h1, h2, iS_q1 hk hb, nS_q1 hd hc]
  rfl
theorem lit_fn {x : Rat} {k d : Nat} {b c : UInt8} (h1 : x.num = -(k : Int)) (h2 : x.den = d) (h0 : 0 < k) (hk : k < 10) (hd : d < 10) (h3 : d ≠ 1) (hb : b = UInt8.ofNat (48 + k)) (hc : c = UInt8.ofNat (48 + d)) : rs x = ⟨#[45, b, 47, c]⟩ := by
  rw [rs_frac (by rw [h2]; exact h3), h1, h2, iS_qn h0 hk hb, nS_q1 hd hc]
  rfl
theorem lit_35 : rs (3 / 5) = ⟨#[51, 47, 53]⟩ := lit_f (k := 3) (d := 5) (by decide +kernel) (by decide +kernel) (by decide) (by decide) (by decide) rfl rfl
theorem lit_45 : rs (4 / 5) = ⟨#[52, 47, 53]⟩ := lit_f (k := 4) (d := 5) (by decide +kernel) (by decide +kernel) (by decide) (by decide) (by decide) rfl rfl
theorem lit_m45 : rs (-(4 / 5)) = ⟨#[45, 52, 47, 53]⟩ := lit_fn (k := 4) (d := 5) (by decide +kernel) (by decide +kernel) (by decide) (by decide) (by decide) (by decide) rfl rfl
theorem lit_m4 : rs (-4) = ⟨#[45, 52]⟩ := (rs_one rfl).trans (iS_qn (k := 4) (by decide) (by decide) rfl)
theorem x_in : inR (1 / 2) 0 = true := by decide +kernel
theorem x_turn : turnV (1 / 2) 0 ⟨7, 5, 0⟩ = ⟨7, 3, -4⟩ := by
  unfold turnV axA axS axU dotV
  simp only [x_cos, x_sin, x_cos0, x_sin0, V3.mk.injEq]
  exact ⟨by decide +kernel, by decide +kernel, by decide +kernel⟩
theorem la16_of (w : World) (hE : Env w) : Calls Tryz.prog 79 #[.agg #[.string ⟨#[49, 47, 50]⟩, .string ⟨#[48]⟩]] w fun e w' => e = .returned (.tuple #[.agg #[.string ⟨#[49]⟩, .string ⟨#[48]⟩, .string ⟨#[48]⟩, .string ⟨#[48]⟩, .string ⟨#[51, 47, 53]⟩, .string ⟨#[52, 47, 53]⟩, .string ⟨#[48]⟩, .string ⟨#[45, 52, 47, 53]⟩, .string ⟨#[51, 47, 53]⟩], .int .i64 0]) ∧ Below w.heap.size w w' := by
  have h := at_OfA (rs (1 / 2), rs 0) w hE (by rw [lit_half]; decide) (by rw [rs_0]; decide)
  simp only [rvB_rs, rvX_rs, x_in, Bool.and_self] at h
  unfold fres at h
  rw [if_pos rfl, x_axW, lit_half, rs_0, lit_1, lit_35, lit_45, lit_m45] at h
  exact h
theorem la16_turn (w : World) (hE : Env w) : Calls Tryz.prog 62 #[.agg #[.string ⟨#[49, 47, 50]⟩, .string ⟨#[48]⟩], .agg #[.string ⟨#[55]⟩, .string ⟨#[53]⟩, .string ⟨#[48]⟩]] w fun e w' => e = .returned (.tuple #[.agg #[.string ⟨#[55]⟩, .string ⟨#[51]⟩, .string ⟨#[45, 52]⟩], .int .i64 0]) ∧ Below w.heap.size w w' := by
  have h := at_TurnA (rs (1 / 2), rs 0) (rs 7, rs 5, rs 0) w hE (by rw [lit_half]; decide) (by rw [rs_0]; decide) (by rw [k7]; decide) (by rw [k5]; decide) (by rw [rs_0]; decide)
  unfold vvB vvX at h
  simp only [rvB_rs, rvX_rs, x_in, x_turn, Bool.and_self] at h
  unfold vres vV txW at h
  rw [if_pos rfl, lit_half, rs_0, k7, k5, k3, lit_m4] at h
  exact h


set_option maxRecDepth 100000 in
set_option maxHeartbeats 4000000 in
theorem la16_awake (w : World) (hE : Env w) : Calls Tryz.prog 37 #[] w fun e w' => e = .returned (.bool true) ∧ Below w.heap.size w w' := by
  have H1 := Lib.hid (fun w hE => la16_of w hE)
  have H2 := Lib.hid (fun w hE => la16_turn w hE)
  have HE := Lib.hid hE
  clear hE
  go_enter Tryz.func37, Tryz.ntmps37
  go_upto_region 2 with fail
  generalize hW : World.alloc w _ = W
  obtain ⟨hB, hsz, R1⟩ := A1 hW
  have R1 := Lib.hid R1
  clear hW hsz
  obtain ⟨c0, c1, f0, f1⟩ := row2 R1.out
  go_wp2_with fail
  clear c0 c1 f0 f1
  refine (H1.out _ (HE.out.below hB)).mono ?_
  rintro e w1 ⟨rfl, hb⟩
  replace hB := bstep hB hb
  have R1 := Lib.hid (keep hb R1.out)
  clear hb
  go_upto_region 3 with fail
  generalize hW : World.alloc _ _ = V
  obtain ⟨hb, hsz, R2⟩ := A1 hW
  replace hB := bstep hB hb
  have R1 := Lib.hid (keep hb R1.out)
  clear hb
  have R2 := Lib.hid R2
  clear hW hsz
  obtain ⟨c0, c1, f0, f1⟩ := row2 R1.out
  go_wp2_with fail
  clear c0 c1 f0 f1
  refine (H2.out _ (HE.out.below hB)).mono ?_
  rintro e w2 ⟨rfl, hb⟩
  replace hB := bstep hB hb
  have R2 := Lib.hid (keep hb R2.out)
  clear hb
  go_upto_region 4 with fail
  generalize hW : World.alloc _ _ = V2
  obtain ⟨hb, hsz, R4⟩ := A1 hW
  replace hB := bstep hB hb
  have R2 := Lib.hid (keep hb R2.out)
  clear hb
  have R4 := Lib.hid R4
  clear hW hsz
  obtain ⟨q0, q1, q2, q3, q4, q5, q6, q7, q8⟩ := rowc9 R2.out
  obtain ⟨R4c0, R4c1, R4c2, R4f0, R4f1, R4f2⟩ := row3 R4.out
  go_wp2_with fail
  go_ret
  exact ⟨rfl, hB⟩
end Go.Proofs.YthkkdepppjiaeaaGreatDoor

/- The law AttitudeUnit. -/
namespace Go.Proofs.YthkkdepppjiaeaaGreatDoor
open Go.RowKit Go.Shelf Go.Sort

attribute [local go_sem] Oper.semAt_some



end Go.Proofs.YthkkdepppjiaeaaGreatDoor

/- An attitude opened and shut. -/
namespace Go.Proofs.YthkkdepppjiaeaaGreatDoor
open Go.ChangeShapes Go.WideShapes Go.ChangeAt Go.ChangeMaps Go.RowKit Go.Deep

theorem cells_att : Tryz.prog.cellsOf 28 = 2 := by kernel_rfl
theorem cells_ratz : Tryz.prog.cellsOf 22 = 1 := by kernel_rfl

section
variable {H : Type} {enc : TypeId × Value → H} {w : World} {base : Nat} {sp : Nat → Bool} {held : Bool}

set_option maxRecDepth 100000 in
theorem open_att {r : Reach} {b0 : Nat} {v : Value} {d : DataW H} {p : List MemPlace} (hv : Value.okWide Tryz.prog w r b0 28 v) (h : DataW.Trod enc Tryz.prog w base sp held 28 v d p) :
    ∃ a0 a1 : ByteArray, v = .agg #[.string a0, .string a1] ∧ d = .agg [.lit (.string a0.data.toList), .lit (.string a1.data.toList)] ∧ p = [] ∧ (a0.size ≤ 9223372036854775807 ∧ a1.size ≤ 9223372036854775807) := by
  obtain ⟨cs, rfl, hsz⟩ := okWide_struct Tryz.underlying28 hv
  obtain ⟨c0, c1, rfl⟩ := Joins.array2 (hsz.trans cells_att)
  obtain ⟨fuel, hf⟩ := h
  obtain ⟨y0, y1, n, hx, _, h0, h1⟩ := trod_struct2 Tryz.underlying28 hf
  rw [cells_ratz] at h0 h1
  have h0 : DataW.trod enc Tryz.prog w base sp held n 22 [c0] = some y0 := h0
  have h1 : DataW.trod enc Tryz.prog w base sp held n 22 [c1] = some y1 := h1
  obtain ⟨s0, e0, rfl, q0⟩ := DataW.trod_string Tryz.underlying22 h0
  obtain ⟨s1, e1, rfl, q1⟩ := DataW.trod_string Tryz.underlying22 h1
  obtain rfl := (List.cons.inj e0).1
  obtain rfl := (List.cons.inj e1).1
  simp only [Prod.mk.injEq] at hx
  exact ⟨s0, s1, rfl, hx.1, hx.2, Nat.le_trans q0 mx_len, Nat.le_trans q1 mx_len⟩

set_option maxRecDepth 100000 in
theorem shut_att {a0 a1 : ByteArray} (h : a0.size ≤ 9223372036854775807 ∧ a1.size ≤ 9223372036854775807) : DataW.Trod enc Tryz.prog w base sp held 28 (.agg #[.string a0, .string a1]) (.agg [.lit (.string a0.data.toList), .lit (.string a1.data.toList)]) [] := by
  obtain ⟨n, hn⟩ := shut_rat (enc := enc) (w := w) (base := base) (sp := sp) (held := held) h.1
  obtain ⟨m, hm⟩ := shut_rat (enc := enc) (w := w) (base := base) (sp := sp) (held := held) h.2
  have hn : DataW.trod enc Tryz.prog w base sp held n 22 [.string a0] = some (.lit (.string a0.data.toList), []) := hn
  have hm : DataW.trod enc Tryz.prog w base sp held m 22 [.string a1] = some (.lit (.string a1.data.toList), []) := hm
  have ts := trod_struct2_mk (enc := enc) (w := w) (base := base) (spare := sp) (held := held) (n := max n m) (cs := [.string a0, .string a1]) Tryz.underlying28 cells_att.symm
    (by rw [cells_ratz]; exact DataW.trod_le (Nat.le_max_left n m) hn) (by rw [cells_ratz]; exact DataW.trod_le (Nat.le_max_right n m) hm)
  exact ⟨_, ts⟩
end
end Go.Proofs.YthkkdepppjiaeaaGreatDoor
