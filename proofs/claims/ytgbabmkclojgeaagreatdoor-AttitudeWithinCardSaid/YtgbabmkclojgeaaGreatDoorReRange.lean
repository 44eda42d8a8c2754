/- A PART OF THE PROOF, JOINED OUT OF 4 TEXTS. -/
import Derived.Test.YtgbabmkclojgeaaGreatDoorRdRange
import Derived.Test.YtgbabmkclojgeaaGreatDoorPnLaw
import Derived.Test.YtgbabmkclojgeaaGreatDoorQlVector
import Derived.Test.YtgbabmkclojgeaaGreatDoorQoApart
import Derived.Test.YtgbabmkclojgeaaGreatDoorQeRef
import Derived.Test.YtgbabmkclojgeaaGreatDoorPoLaw
import Derived.Test.YtgbabmkclojgeaaGreatDoorPkVector
import Derived.Deep.Slices
import Derived.Deep.Fields
import Derived.Deep.MidRow
import Derived.ChangeSame
/- The program's Range at whatever texts. -/
namespace Go.Proofs.YtgbabmkclojgeaaGreatDoor
open Go.RowKit Go.Shelf Go.Sort

attribute [local go_sem] Oper.semAt_some vec_guard vec_eq


set_option maxRecDepth 100000 in
set_option maxHeartbeats 4000000 in
theorem ve_Range_none (A : Option Addr) (n c : Nat) (a0 a1 a2 : ByteArray) (w : World) (hn : n = 0) :
    Calls Tryz.prog 47 #[.slice A n c, .agg #[.string a0, .string a1, .string a2]] w fun e w' => e = .returned (.tuple #[.agg #[.string ⟨#[]⟩, .string ⟨#[]⟩], .int .i64 9]) ∧ Below w.heap.size w w' := by
  subst hn
  go_enter Tryz.func47, Tryz.ntmps47
  go_upto_region 1 with fail
  generalize hW : (World.alloc w _).alloc _ = W
  obtain ⟨hB, hsz, R3, R4⟩ := A2 hW
  have R3 := Lib.hid R3
  have R4 := Lib.hid R4
  clear hW hsz
  obtain ⟨R4c0, R4c1, R4f0, R4f1⟩ := row2 R4.out
  go_wp2_with fail
  exact bodyPost_ret (res_ct rfl ivl_row rfl (store2 R4.out _ _) rfl) rfl ⟨rfl, store2_below hB (by omega) _ _⟩


set_option maxRecDepth 100000 in
set_option maxHeartbeats 4000000 in
theorem ve_Range_long (A : Option Addr) (n c : Nat) (a0 a1 a2 : ByteArray) (w : World) (hn : 1536 < n) :
    Calls Tryz.prog 47 #[.slice A n c, .agg #[.string a0, .string a1, .string a2]] w fun e w' => e = .returned (.tuple #[.agg #[.string ⟨#[]⟩, .string ⟨#[]⟩], .int .i64 8]) ∧ Below w.heap.size w w' := by
  have hn0 : ((n : Int) == 0) = false := by rw [beq_eq_false_iff_ne]; omega
  have hn5 : decide ((1536 : Int) < (n : Int)) = true := by rw [decide_eq_true_iff]; omega
  go_enter Tryz.func47, Tryz.ntmps47
  go_upto_region 1 with fail
  generalize hW : (World.alloc w _).alloc _ = W
  obtain ⟨hB, hsz, R3, R4⟩ := A2 hW
  have R3 := Lib.hid R3
  have R4 := Lib.hid R4
  clear hW hsz
  obtain ⟨R4c0, R4c1, R4f0, R4f1⟩ := row2 R4.out
  go_wp2_with fail
  exact bodyPost_ret (res_ct rfl ivl_row rfl (store2 R4.out _ _) rfl) rfl ⟨rfl, store2_below hB (by omega) _ _⟩


set_option maxRecDepth 100000 in
set_option maxHeartbeats 4000000 in
theorem r11_Range_none (A : Option Addr) (n c : Nat) (a0 a1 a2 : ByteArray) (w : World) (hn : n = 0) :
    Calls Tryz.prog 49 #[.slice A n c, .agg #[.string a0, .string a1, .string a2]] w fun e w' => e = .returned (.tuple #[.agg #[.string ⟨#[]⟩, .string ⟨#[]⟩], .int .i64 9]) ∧ Below w.heap.size w w' := by
  subst hn
  go_enter Tryz.func49, Tryz.ntmps49
  go_upto_region 1 with fail
  generalize hW : (World.alloc w _).alloc _ = W
  obtain ⟨hB, hsz, R3, R4⟩ := A2 hW
  have R3 := Lib.hid R3
  have R4 := Lib.hid R4
  clear hW hsz
  obtain ⟨R4c0, R4c1, R4f0, R4f1⟩ := row2 R4.out
  go_wp2_with fail
  exact bodyPost_ret (res_ct rfl ivl_row rfl (store2 R4.out _ _) rfl) rfl ⟨rfl, store2_below hB (by omega) _ _⟩


set_option maxRecDepth 100000 in
set_option maxHeartbeats 4000000 in
theorem r11_Range_long (A : Option Addr) (n c : Nat) (a0 a1 a2 : ByteArray) (w : World) (hn : 1536 < n) :
    Calls Tryz.prog 49 #[.slice A n c, .agg #[.string a0, .string a1, .string a2]] w fun e w' => e = .returned (.tuple #[.agg #[.string ⟨#[]⟩, .string ⟨#[]⟩], .int .i64 8]) ∧ Below w.heap.size w w' := by
  have hn0 : ((n : Int) == 0) = false := by rw [beq_eq_false_iff_ne]; omega
  have hn5 : decide ((1536 : Int) < (n : Int)) = true := by rw [decide_eq_true_iff]; omega
  go_enter Tryz.func49, Tryz.ntmps49
  go_upto_region 1 with fail
  generalize hW : (World.alloc w _).alloc _ = W
  obtain ⟨hB, hsz, R3, R4⟩ := A2 hW
  have R3 := Lib.hid R3
  have R4 := Lib.hid R4
  clear hW hsz
  obtain ⟨R4c0, R4c1, R4f0, R4f1⟩ := row2 R4.out
  go_wp2_with fail
  exact bodyPost_ret (res_ct rfl ivl_row rfl (store2 R4.out _ _) rfl) rfl ⟨rfl, store2_below hB (by omega) _ _⟩


set_option maxRecDepth 100000 in
set_option maxHeartbeats 8000000 in
theorem ve_Range1 (b o : Nat) (S : Nat → V3) (a : V3) (w : World) (hE : Env w) (hA : VecsAt w b o 1 (txV S)) (hS : ∀ i, i < 1 → SzV 20000 (S i)) (ha : SzV 20000 a) :
    Calls Tryz.prog 47 #[.slice (some ⟨b, o, none⟩) 1 1, vV a] w fun e w' => e = .returned (.tuple #[.agg #[.string (rs (rng S a 0).1), .string (rs (rng S a 0).2)], .int .i64 0]) ∧ Below w.heap.size w w' := by
  have HA := Lib.hid hA
  have hsh := sh_of ha (by decide)
  have HV := fun w hE => ve_Valid (rs a.x) (rs a.y) (rs a.z) w hE hsh.1 hsh.2.1 hsh.2.2
  rw [rvB_rs, rvB_rs, rvB_rs] at HV
  simp only [Bool.and_self] at HV
  have HV := Lib.hid HV
  have HC := Lib.hid (fun (w' : World) (hb : Below w.heap.size w w') => ve_check b o 1 1 (txV S) 0 w' (hE.below hb) (by decide) (hA.below hb) (fun i hi => sh_of (hS i hi) (by decide)) (fun _ => rfl) (fun ⟨i, hi, hv⟩ => by rw [show vvB (txV S i) = true from vvB_rs (S i)] at hv; cases hv))
  have HD := Lib.hid (fun i (hi : i < 1) w hE => ve_dot (S i) a w hE ((hS i hi).mono (by decide)) (ha.mono (by decide)))
  have HZ := Lib.hid (fun i (hi : i < 1) => sz_rng hS ha i hi)
  have HW := Lib.hid (fun i (hi : i < 1) => sz_dot (hS i hi) ha)
  have HE := Lib.hid hE
  clear hE hA hS ha hsh
  unfold vV
  go_enter Tryz.func47, Tryz.ntmps47
  go_wp2_with fail
  generalize hW : (World.alloc w _).alloc _ = W
  obtain ⟨hB, hsz, R3, R4⟩ := A2 hW
  have R3 := Lib.hid R3
  have R4 := Lib.hid R4
  clear hW hsz
  refine (HC.out _ hB).mono ?_
  rintro e w1 ⟨rfl, hb⟩
  replace hB := bstep hB hb
  have R3 := Lib.hid (keep hb R3.out)
  have R4 := Lib.hid (keep hb R4.out)
  clear hb
  obtain ⟨R3c0, R3c1, R3c2, R3f0, R3f1, R3f2⟩ := row3 R3.out
  go_wp2_with fail
  clear R3c0 R3c1 R3c2 R3f0 R3f1 R3f2
  refine (HV.out _ (HE.out.below hB)).mono ?_
  rintro e w2 ⟨rfl, hb⟩
  replace hB := bstep hB hb
  have R3 := Lib.hid (keep hb R3.out)
  have R4 := Lib.hid (keep hb R4.out)
  clear hb
  go_wp2_with fail
  obtain ⟨v0, v1, v2⟩ := (HA.out.below hB) 0 (by omega)
  simp only [Nat.zero_mul, Nat.add_zero] at v0 v1 v2
  unfold txV at v0 v1 v2
  simp only at v0 v1 v2
  have e0 : ∀ d os, (grow (redrawn w2 d) os).cell? ⟨b, o, none⟩ = some (.string (rs (S 0).x)) := fun d os => cell_regrown v0 d os
  have e1 : ∀ d os, (grow (redrawn w2 d) os).cell? ⟨b, o + 1, none⟩ = some (.string (rs (S 0).y)) := fun d os => cell_regrown v1 d os
  have e2 : ∀ d os, (grow (redrawn w2 d) os).cell? ⟨b, o + 2, none⟩ = some (.string (rs (S 0).z)) := fun d os => cell_regrown v2 d os
  have e3 : ∀ d os, (grow (redrawn w2 d) os).cell? ⟨w.heap.size, 0, none⟩ = some (.string (rs a.x)) := fun d os => cell_regrown (row3 R3.out).1 d os
  have e4 : ∀ d os, (grow (redrawn w2 d) os).cell? ⟨w.heap.size, 1, none⟩ = some (.string (rs a.y)) := fun d os => cell_regrown (row3 R3.out).2.1 d os
  have e5 : ∀ d os, (grow (redrawn w2 d) os).cell? ⟨w.heap.size, 2, none⟩ = some (.string (rs a.z)) := fun d os => cell_regrown (row3 R3.out).2.2.1 d os
  have hE := HE.out.below hB
  have S1 := Lib.hid (fun d os => Calls.regrown_of (HD.out 0 (by omega) (grow (redrawn w2 d) os) (hE.below (below_regrown w2 d os))))
  unfold vV at S1
  clear hE v0 v1 v2
  refine wp_region_quiet_below (by kernel_rfl) (by kernel_rfl) ?_
  repeat (first | quiet_step (with_reducible exact S1.out _ _))
  refine wpQuiet_nil ?_
  intro _ hw'
  obtain ⟨⟨dq, osq⟩, hw''⟩ := hw'
  subst hw''
  have hb := below_regrown w2 dq osq
  clear e0 e1 e2 e3 e4 e5 S1
  generalize grow (redrawn w2 dq) osq = W3 at *
  replace hB := bstep hB hb
  have R3 := Lib.hid (keep hb R3.out)
  have R4 := Lib.hid (keep hb R4.out)
  clear hb
  go_wp2_with fail
  have n1 : Hid (w.heap.size ≠ W3.heap.size) := Lib.hid (lp R3.out)
  have n2 : Hid (w.heap.size + 1 ≠ W3.heap.size) := Lib.hid (lp R4.out)
  have n3 : Hid (w.heap.size ≤ W3.heap.size) := Lib.hid (by have := lp2 R3.out; omega)
  generalize hW : World.alloc _ _ = V
  obtain ⟨hb, hsz, R7⟩ := A1 hW
  replace hB := bstep hB hb
  have R3 := Lib.hid (keep hb R3.out)
  have R4 := Lib.hid (keep hb R4.out)
  clear hb
  have R7 := Lib.hid R7
  clear hW hsz
  go_loopw [42] (fun x wr => x = .int .i64 0 ∧ Below w.heap.size w wr ∧
      Hid (wr.heap[w.heap.size + 1]? = some (.cells #[.string ⟨#[]⟩, .string ⟨#[]⟩] 73 (0, 0))) ∧ Hid (wr.heap[W3.heap.size]? = some (.cells #[.string (rs (rng S a 0).1), .string (rs (rng S a 0).2)] 73 (0, 0)))) (fun x _ => 1 - (intOf x).toNat)
  case atStart => exact ⟨rfl, hB, R4, R7⟩
  case round =>
    clear R3 R4 R7 hB
    obtain ⟨rfl, hB, R4, R7⟩ := hrel
    obtain ⟨R4c0, R4c1, R4f0, R4f1⟩ := row2 R4.out
    obtain ⟨R7c0, R7c1, R7f0, R7f1⟩ := row2 R7.out
    go_wp2_with fail
    exact bodyPost_ret (res_ct rfl ivl_row rfl (store2 R4.out _ _) rfl) rfl ⟨rfl, store2_below hB (by omega) _ _⟩


set_option maxRecDepth 100000 in
set_option maxHeartbeats 8000000 in
theorem ve_RangeL (b o n c : Nat) (S : Nat → V3) (a : V3) (w : World) (hE : Env w) (hn : 1 ≤ n) (hn2 : n ≤ 1536) (hc : 1 < c) (hcm : c ≤ 9223372036854775807) (hA : VecsAt w b o n (txV S)) (hS : ∀ i, i < n → SzV 20000 (S i)) (ha : SzV 20000 a) :
    Calls Tryz.prog 47 #[.slice (some ⟨b, o, none⟩) n c, vV a] w fun e w' => e = .returned (.tuple #[.agg #[.string (rs (rng S a (n - 1)).1), .string (rs (rng S a (n - 1)).2)], .int .i64 0]) ∧ Below w.heap.size w w' := by
  have HA := Lib.hid hA
  have hsh := sh_of ha (by decide)
  have HV := fun w hE => ve_Valid (rs a.x) (rs a.y) (rs a.z) w hE hsh.1 hsh.2.1 hsh.2.2
  rw [rvB_rs, rvB_rs, rvB_rs] at HV
  simp only [Bool.and_self] at HV
  have HV := Lib.hid HV
  have HC := Lib.hid (fun (w' : World) (hb : Below w.heap.size w w') => ve_check b o n c (txV S) 0 w' (hE.below hb) (by omega) (hA.below hb) (fun i hi => sh_of (hS i hi) (by decide)) (fun _ => rfl) (fun ⟨i, hi, hv⟩ => by rw [show vvB (txV S i) = true from vvB_rs (S i)] at hv; cases hv))
  have HD := Lib.hid (fun i (hi : i < n) w hE => ve_dot (S i) a w hE ((hS i hi).mono (by decide)) (ha.mono (by decide)))
  have HZ := Lib.hid (fun i (hi : i < n) => sz_rng hS ha i hi)
  have HW := Lib.hid (fun i (hi : i < n) => sz_dot (hS i hi) ha)
  have HE := Lib.hid hE
  clear hE hA hS ha hsh
  have hn0 : ((n : Int) == 0) = false := by rw [beq_eq_false_iff_ne]; omega
  have hn5 : decide ((1536 : Int) < (n : Int)) = false := by rw [decide_eq_false_iff_not]; omega
  have hp : 0 < n := by omega
  have hq : (0 : Int) < (n : Int) := by omega
  unfold vV
  go_enter Tryz.func47, Tryz.ntmps47
  go_wp2_with fail
  generalize hW : (World.alloc w _).alloc _ = W
  obtain ⟨hB, hsz, R3, R4⟩ := A2 hW
  have R3 := Lib.hid R3
  have R4 := Lib.hid R4
  clear hW hsz
  refine (HC.out _ hB).mono ?_
  rintro e w1 ⟨rfl, hb⟩
  replace hB := bstep hB hb
  have R3 := Lib.hid (keep hb R3.out)
  have R4 := Lib.hid (keep hb R4.out)
  clear hb
  obtain ⟨R3c0, R3c1, R3c2, R3f0, R3f1, R3f2⟩ := row3 R3.out
  go_wp2_with fail
  clear R3c0 R3c1 R3c2 R3f0 R3f1 R3f2
  refine (HV.out _ (HE.out.below hB)).mono ?_
  rintro e w2 ⟨rfl, hb⟩
  replace hB := bstep hB hb
  have R3 := Lib.hid (keep hb R3.out)
  have R4 := Lib.hid (keep hb R4.out)
  clear hb
  go_wp2_with fail
  obtain ⟨v0, v1, v2⟩ := (HA.out.below hB) 0 (by omega)
  simp only [Nat.zero_mul, Nat.add_zero] at v0 v1 v2
  unfold txV at v0 v1 v2
  simp only at v0 v1 v2
  have e0 : ∀ d os, (grow (redrawn w2 d) os).cell? ⟨b, o, none⟩ = some (.string (rs (S 0).x)) := fun d os => cell_regrown v0 d os
  have e1 : ∀ d os, (grow (redrawn w2 d) os).cell? ⟨b, o + 1, none⟩ = some (.string (rs (S 0).y)) := fun d os => cell_regrown v1 d os
  have e2 : ∀ d os, (grow (redrawn w2 d) os).cell? ⟨b, o + 2, none⟩ = some (.string (rs (S 0).z)) := fun d os => cell_regrown v2 d os
  have e3 : ∀ d os, (grow (redrawn w2 d) os).cell? ⟨w.heap.size, 0, none⟩ = some (.string (rs a.x)) := fun d os => cell_regrown (row3 R3.out).1 d os
  have e4 : ∀ d os, (grow (redrawn w2 d) os).cell? ⟨w.heap.size, 1, none⟩ = some (.string (rs a.y)) := fun d os => cell_regrown (row3 R3.out).2.1 d os
  have e5 : ∀ d os, (grow (redrawn w2 d) os).cell? ⟨w.heap.size, 2, none⟩ = some (.string (rs a.z)) := fun d os => cell_regrown (row3 R3.out).2.2.1 d os
  have hE := HE.out.below hB
  have S1 := Lib.hid (fun d os => Calls.regrown_of (HD.out 0 (by omega) (grow (redrawn w2 d) os) (hE.below (below_regrown w2 d os))))
  unfold vV at S1
  clear hE v0 v1 v2
  refine wp_region_quiet_below (by kernel_rfl) (by kernel_rfl) ?_
  repeat (first | quiet_step (with_reducible exact S1.out _ _))
  refine wpQuiet_nil ?_
  intro _ hw'
  obtain ⟨⟨dq, osq⟩, hw''⟩ := hw'
  subst hw''
  have hb := below_regrown w2 dq osq
  clear e0 e1 e2 e3 e4 e5 S1
  generalize grow (redrawn w2 dq) osq = W3 at *
  replace hB := bstep hB hb
  have R3 := Lib.hid (keep hb R3.out)
  have R4 := Lib.hid (keep hb R4.out)
  clear hb
  go_wp2_with fail
  have n1 : Hid (w.heap.size ≠ W3.heap.size) := Lib.hid (lp R3.out)
  have n2 : Hid (w.heap.size + 1 ≠ W3.heap.size) := Lib.hid (lp R4.out)
  have n3 : Hid (w.heap.size ≤ W3.heap.size) := Lib.hid (by have := lp2 R3.out; omega)
  generalize hW : World.alloc _ _ = V
  obtain ⟨hb, hsz, R7⟩ := A1 hW
  replace hB := bstep hB hb
  have R3 := Lib.hid (keep hb R3.out)
  have R4 := Lib.hid (keep hb R4.out)
  clear hb
  have R7 := Lib.hid R7
  clear hW hsz
  go_loopw [42] (fun x wr => ∃ k : Nat, k ≤ n - 1 ∧ x = .int .i64 k ∧ Below w.heap.size w wr ∧ Hid (wr.heap[w.heap.size]? = some (.cells #[.string (rs a.x), .string (rs a.y), .string (rs a.z)] 28 (0, 0))) ∧
      Hid (wr.heap[w.heap.size + 1]? = some (.cells #[.string ⟨#[]⟩, .string ⟨#[]⟩] 73 (0, 0))) ∧ Hid (wr.heap[W3.heap.size]? = some (.cells #[.string (rs (rng S a k).1), .string (rs (rng S a k).2)] 73 (0, 0)))) (fun x _ => n - (intOf x).toNat)
  case atStart => exact ⟨0, Nat.zero_le _, rfl, hB, R3, R4, R7⟩
  case round =>
    clear R3 R4 R7 hB
    obtain ⟨k, hk, rfl, hB, R3, R4, R7⟩ := hrel
    by_cases hlt : k < n - 1
    · obtain ⟨v0, v1, v2⟩ := (HA.out.below hB) (k + 1) (by omega)
      rw [show o + (k + 1) * 3 = o + 3 + k * 3 by omega] at v0 v1 v2
      unfold txV at v0 v1 v2
      simp only at v0 v1 v2
      have hz := HZ.out k (by omega)
      have hw := HW.out (k + 1) (by omega)
      have HDk := Lib.hid (fun w hE => HD.out (k + 1) (by omega) w hE)
      have B1 := Lib.hid (fun w hE => ve_sub (dotV (S (k + 1)) a) (rng S a k).1 w hE (hw.mono (by decide)) (hz.1.mono (by decide)))
      have B2 := Lib.hid (fun w hE => ve_sub (dotV (S (k + 1)) a) (rng S a k).2 w hE (hw.mono (by decide)) (hz.2.mono (by decide)))
      have G1 := Lib.hid (fun w hE => ve_sign (dotV (S (k + 1)) a - (rng S a k).1) w hE ((sz_sub hw hz.1).mono (by decide)))
      have G2 := Lib.hid (fun w hE => ve_sign (dotV (S (k + 1)) a - (rng S a k).2) w hE ((sz_sub hw hz.2).mono (by decide)))
      have hr1 : rs (rng S a (k + 1)).1 = if cmpQ (dotV (S (k + 1)) a - (rng S a k).1) 0 < 0 then rs (dotV (S (k + 1)) a) else rs (rng S a k).1 := by
        show rs (if _ then _ else _) = _
        split <;> rfl
      have hr2 : rs (rng S a (k + 1)).2 = if 0 < cmpQ (dotV (S (k + 1)) a - (rng S a k).2) 0 then rs (dotV (S (k + 1)) a) else rs (rng S a k).2 := by
        show rs (if _ then _ else _) = _
        split <;> rfl
      clear hz hw
      unfold vV at HDk
      have HR1 := Lib.hid hr1
      have HR2 := Lib.hid hr2
      clear hr1 hr2
      generalize cmpQ (dotV (S (k + 1)) a - (rng S a k).1) 0 = s1 at *
      generalize cmpQ (dotV (S (k + 1)) a - (rng S a k).2) 0 = s2 at *
      generalize rs (dotV (S (k + 1)) a - (rng S a k).1) = t1 at *
      generalize rs (dotV (S (k + 1)) a - (rng S a k).2) = t2 at *
      generalize rs (dotV (S (k + 1)) a) = x at *
      generalize rs (rng S a k).1 = lo at *
      generalize rs (rng S a k).2 = hi at *
      generalize rs (S (k + 1)).x = c0 at *
      generalize rs (S (k + 1)).y = c1 at *
      generalize rs (S (k + 1)).z = c2 at *
      by_cases h1 : s1 < 0 <;> by_cases h2 : 0 < s2
      all_goals
        obtain ⟨q0, q1, q2, q3, q4, q5⟩ := row3 R3.out
        have q6 := lp2 R3.out
        go_wp2_with fail
        clear q6 q0 q1 q2 q3 q4 q5
        clear v0 v1 v2
        generalize hW : World.alloc _ _ = U
        obtain ⟨hb, hsz, R9⟩ := A1 hW
        replace hB := bstep hB hb
        have R3 := Lib.hid (keep hb R3.out)
        have R4 := Lib.hid (keep hb R4.out)
        have R7 := Lib.hid (keep hb R7.out)
        clear hb
        have R9 := Lib.hid R9
        clear hW hsz
        refine (HDk.out _ (HE.out.below hB)).mono ?_
        rintro e w5 ⟨rfl, hb⟩
        replace hB := bstep hB hb
        have R3 := Lib.hid (keep hb R3.out)
        have R4 := Lib.hid (keep hb R4.out)
        have R7 := Lib.hid (keep hb R7.out)
        clear hb
        obtain ⟨p0, p1, p2, p3⟩ := row2 R7.out
        go_wp2_with fail
        clear p0 p1 p2 p3
        refine (B1.out _ (HE.out.below hB)).mono ?_
        rintro e w6 ⟨rfl, hb⟩
        replace hB := bstep hB hb
        have R3 := Lib.hid (keep hb R3.out)
        have R4 := Lib.hid (keep hb R4.out)
        have R7 := Lib.hid (keep hb R7.out)
        clear hb
        go_wp2_with fail
        refine (G1.out _ (HE.out.below hB)).mono ?_
        rintro e w7 ⟨rfl, hb⟩
        replace hB := bstep hB hb
        have R3 := Lib.hid (keep hb R3.out)
        have R4 := Lib.hid (keep hb R4.out)
        have R7 := Lib.hid (keep hb R7.out)
        clear hb
        obtain ⟨p0, p1, p2, p3⟩ := row2 R7.out
        go_wp2_with fail
        clear p0 p1 p2 p3
      · have hB := set_below hB n3.out (i := 0) (x := .string x)
        have R3 := Lib.hid (set_other n1.out R3.out (i := 0) (x := .string x))
        have R4 := Lib.hid (set_other n2.out R4.out (i := 0) (x := .string x))
        have R7 := Lib.hid (set2_0 R7.out (x := .string x))
        generalize w7.setCell ⟨W3.heap.size, 0, none⟩ (.string x) = X at *
        refine (B2.out _ (HE.out.below hB)).mono ?_
        rintro e w8 ⟨rfl, hb⟩
        replace hB := bstep hB hb
        have R3 := Lib.hid (keep hb R3.out)
        have R4 := Lib.hid (keep hb R4.out)
        have R7 := Lib.hid (keep hb R7.out)
        clear hb
        go_wp2_with fail
        refine (G2.out _ (HE.out.below hB)).mono ?_
        rintro e w9 ⟨rfl, hb⟩
        replace hB := bstep hB hb
        have R3 := Lib.hid (keep hb R3.out)
        have R4 := Lib.hid (keep hb R4.out)
        have R7 := Lib.hid (keep hb R7.out)
        clear hb
        obtain ⟨p0, p1, p2, p3⟩ := row2 R7.out
        go_wp2_with fail
        clear p0 p1 p2 p3
        go_roundw
        case rel => exact ⟨k + 1, by omega, by go_num, set_below hB n3.out, Lib.hid (set_other n1.out R3.out), Lib.hid (set_other n2.out R4.out), Lib.hid (by rw [HR1.out, HR2.out, if_pos h1, if_pos h2]; exact set2_1 R7.out)⟩
        case measure => simp [intOf]; omega
      · have hB := set_below hB n3.out (i := 0) (x := .string x)
        have R3 := Lib.hid (set_other n1.out R3.out (i := 0) (x := .string x))
        have R4 := Lib.hid (set_other n2.out R4.out (i := 0) (x := .string x))
        have R7 := Lib.hid (set2_0 R7.out (x := .string x))
        generalize w7.setCell ⟨W3.heap.size, 0, none⟩ (.string x) = X at *
        refine (B2.out _ (HE.out.below hB)).mono ?_
        rintro e w8 ⟨rfl, hb⟩
        replace hB := bstep hB hb
        have R3 := Lib.hid (keep hb R3.out)
        have R4 := Lib.hid (keep hb R4.out)
        have R7 := Lib.hid (keep hb R7.out)
        clear hb
        go_wp2_with fail
        refine (G2.out _ (HE.out.below hB)).mono ?_
        rintro e w9 ⟨rfl, hb⟩
        replace hB := bstep hB hb
        have R3 := Lib.hid (keep hb R3.out)
        have R4 := Lib.hid (keep hb R4.out)
        have R7 := Lib.hid (keep hb R7.out)
        clear hb
        obtain ⟨p0, p1, p2, p3⟩ := row2 R7.out
        go_wp2_with fail
        clear p0 p1 p2 p3
        go_roundw
        case rel => exact ⟨k + 1, by omega, by go_num, hB, R3, R4, Lib.hid (by rw [HR1.out, HR2.out, if_pos h1, if_neg (show ¬ 0 < s2 by omega)]; exact R7.out)⟩
        case measure => simp [intOf]; omega
      · skip
        refine (B2.out _ (HE.out.below hB)).mono ?_
        rintro e w8 ⟨rfl, hb⟩
        replace hB := bstep hB hb
        have R3 := Lib.hid (keep hb R3.out)
        have R4 := Lib.hid (keep hb R4.out)
        have R7 := Lib.hid (keep hb R7.out)
        clear hb
        go_wp2_with fail
        refine (G2.out _ (HE.out.below hB)).mono ?_
        rintro e w9 ⟨rfl, hb⟩
        replace hB := bstep hB hb
        have R3 := Lib.hid (keep hb R3.out)
        have R4 := Lib.hid (keep hb R4.out)
        have R7 := Lib.hid (keep hb R7.out)
        clear hb
        obtain ⟨p0, p1, p2, p3⟩ := row2 R7.out
        go_wp2_with fail
        clear p0 p1 p2 p3
        go_roundw
        case rel => exact ⟨k + 1, by omega, by go_num, set_below hB n3.out, Lib.hid (set_other n1.out R3.out), Lib.hid (set_other n2.out R4.out), Lib.hid (by rw [HR1.out, HR2.out, if_neg (show ¬ s1 < 0 by omega), if_pos h2]; exact set2_1 R7.out)⟩
        case measure => simp [intOf]; omega
      · skip
        refine (B2.out _ (HE.out.below hB)).mono ?_
        rintro e w8 ⟨rfl, hb⟩
        replace hB := bstep hB hb
        have R3 := Lib.hid (keep hb R3.out)
        have R4 := Lib.hid (keep hb R4.out)
        have R7 := Lib.hid (keep hb R7.out)
        clear hb
        go_wp2_with fail
        refine (G2.out _ (HE.out.below hB)).mono ?_
        rintro e w9 ⟨rfl, hb⟩
        replace hB := bstep hB hb
        have R3 := Lib.hid (keep hb R3.out)
        have R4 := Lib.hid (keep hb R4.out)
        have R7 := Lib.hid (keep hb R7.out)
        clear hb
        obtain ⟨p0, p1, p2, p3⟩ := row2 R7.out
        go_wp2_with fail
        clear p0 p1 p2 p3
        go_roundw
        case rel => exact ⟨k + 1, by omega, by go_num, hB, R3, R4, Lib.hid (by rw [HR1.out, HR2.out, if_neg (show ¬ s1 < 0 by omega), if_neg (show ¬ 0 < s2 by omega)]; exact R7.out)⟩
        case measure => simp [intOf]; omega
    · have hkn : k = n - 1 := by omega
      obtain ⟨R4c0, R4c1, R4f0, R4f1⟩ := row2 R4.out
      obtain ⟨R7c0, R7c1, R7f0, R7f1⟩ := row2 R7.out
      go_wp2_with fail
      rw [← hkn]
      exact bodyPost_ret (res_ct rfl ivl_row rfl (store2 R4.out _ _) rfl) rfl ⟨rfl, store2_below hB (by omega) _ _⟩


set_option maxRecDepth 100000 in
set_option maxHeartbeats 4000000 in
theorem ve_Range_bad (A : Option Addr) (n c : Nat) (a0 a1 a2 : ByteArray) (rc : Int) (v : Bool) (w : World) (hE : Env w) (hn : 1 ≤ n) (hn2 : n ≤ 1536) (hr : (rc != 0) = true ∨ (rc = 0 ∧ v = false))
    (h1 : ∀ W, Below w.heap.size w W → Calls Tryz.prog 82 #[.slice A n c] W fun e w' => e = .returned (.int .i64 rc) ∧ Below W.heap.size W w')
    (h2 : ∀ W, Env W → Calls Tryz.prog 32 #[.agg #[.string a0, .string a1, .string a2]] W fun e w' => e = .returned (.bool v) ∧ Below W.heap.size W w') :
    Calls Tryz.prog 47 #[.slice A n c, .agg #[.string a0, .string a1, .string a2]] w fun e w' => e = .returned (.tuple #[.agg #[.string ⟨#[]⟩, .string ⟨#[]⟩], .int .i64 1]) ∧ Below w.heap.size w w' := by
  have H1 := Lib.hid h1
  have H2 := Lib.hid h2
  have HE := Lib.hid hE
  clear h1 h2 hE
  have hn0 : ((n : Int) == 0) = false := by rw [beq_eq_false_iff_ne]; omega
  have hn5 : decide ((1536 : Int) < (n : Int)) = false := by rw [decide_eq_false_iff_not]; omega
  rcases hr with hr | ⟨rfl, rfl⟩
  · have hr' : (rc == 0) = false := by simpa using hr
    go_enter Tryz.func47, Tryz.ntmps47
    go_wp2_with fail
    generalize hW : (World.alloc w _).alloc _ = W
    obtain ⟨hB, hsz, R3, R4⟩ := A2 hW
    have R3 := Lib.hid R3
    have R4 := Lib.hid R4
    clear hW hsz
    refine (H1.out _ hB).mono ?_
    rintro e w1 ⟨rfl, hb⟩
    replace hB := bstep hB hb
    have R3 := Lib.hid (keep hb R3.out)
    have R4 := Lib.hid (keep hb R4.out)
    clear hb
    obtain ⟨R4c0, R4c1, R4f0, R4f1⟩ := row2 R4.out
    go_wp2_with fail
    exact bodyPost_ret (res_ct rfl ivl_row rfl (store2 R4.out _ _) rfl) rfl ⟨rfl, store2_below hB (by omega) _ _⟩
  
  · go_enter Tryz.func47, Tryz.ntmps47
    go_wp2_with fail
    generalize hW : (World.alloc w _).alloc _ = W
    obtain ⟨hB, hsz, R3, R4⟩ := A2 hW
    have R3 := Lib.hid R3
    have R4 := Lib.hid R4
    clear hW hsz
    refine (H1.out _ hB).mono ?_
    rintro e w1 ⟨rfl, hb⟩
    replace hB := bstep hB hb
    have R3 := Lib.hid (keep hb R3.out)
    have R4 := Lib.hid (keep hb R4.out)
    clear hb
    obtain ⟨R3c0, R3c1, R3c2, R3f0, R3f1, R3f2⟩ := row3 R3.out
    go_wp2_with fail
    clear R3c0 R3c1 R3c2 R3f0 R3f1 R3f2
    refine (H2.out _ (HE.out.below hB)).mono ?_
    rintro e w2 ⟨rfl, hb⟩
    replace hB := bstep hB hb
    have R4 := Lib.hid (keep hb R4.out)
    clear hb
    obtain ⟨R4c0, R4c1, R4f0, R4f1⟩ := row2 R4.out
    go_wp2_with fail
    exact bodyPost_ret (res_ct rfl ivl_row rfl (store2 R4.out _ _) rfl) rfl ⟨rfl, store2_below hB (by omega) _ _⟩
  

set_option maxRecDepth 100000 in
set_option maxHeartbeats 4000000 in
theorem r11_Range_bada (A : Option Addr) (n c : Nat) (a0 a1 a2 : ByteArray) (b0 b1 b2 : Bool) (w : World) (hn : 1 ≤ n) (hn2 : n ≤ 1536)
    (hv : ∀ W, Calls Tryz.prog 80 #[.agg #[.string a0, .string a1, .string a2]] W fun e w' => ∃ u : VS, e = .returned (.tuple #[vW b0 b1 b2 u, .bool false]) ∧ Below W.heap.size W w') :
    Calls Tryz.prog 49 #[.slice A n c, .agg #[.string a0, .string a1, .string a2]] w fun e w' => e = .returned (.tuple #[.agg #[.string ⟨#[]⟩, .string ⟨#[]⟩], .int .i64 1]) ∧ Below w.heap.size w w' := by
  have HV := Lib.hid hv
  clear hv
  have hn0 : ((n : Int) == 0) = false := by rw [beq_eq_false_iff_ne]; omega
  have hn5 : decide ((1536 : Int) < (n : Int)) = false := by rw [decide_eq_false_iff_not]; omega
  go_enter Tryz.func49, Tryz.ntmps49
  go_wp2_with fail
  generalize hW : (World.alloc w _).alloc _ = W
  obtain ⟨hB, hsz, R3, R4⟩ := A2 hW
  have R3 := Lib.hid R3
  have R4 := Lib.hid R4
  clear hW hsz
  obtain ⟨R3c0, R3c1, R3c2, R3f0, R3f1, R3f2⟩ := row3 R3.out
  go_wp2_with fail
  clear R3c0 R3c1 R3c2 R3f0 R3f1 R3f2
  refine (HV.out _).mono ?_
  rintro e w1 ⟨u, rfl, hb⟩
  replace hB := bstep hB hb
  have R4 := Lib.hid (keep hb R4.out)
  clear hb
  go_upto_region 6 with fail
  generalize hW : World.alloc _ _ = V
  obtain ⟨hb, hsz, R6⟩ := A1 hW
  replace hB := bstep hB hb
  have R4 := Lib.hid (keep hb R4.out)
  clear hb
  have R6 := Lib.hid R6
  clear hW hsz
  obtain ⟨R4c0, R4c1, R4f0, R4f1⟩ := row2 R4.out
  go_wp2_with fail
  exact bodyPost_ret (res_ct rfl ivl_row rfl (store2 R4.out _ _) rfl) rfl ⟨rfl, store2_below hB (by omega) _ _⟩

theorem dotV_comm (a b : V3) : dotV a b = dotV b a := by unfold dotV; grind
theorem cmpI_le {a b : Int} : cmpI a b ≤ 0 ↔ a ≤ b := by
  unfold cmpI
  split
  · omega
  · split <;> omega
theorem cmpI_swap (a b : Int) : cmpI b a = -cmpI a b := by
  unfold cmpI
  split <;> split <;> (try split) <;> omega
theorem cmpQ_swap (x y : Rat) : cmpQ y x = -cmpQ x y := cmpI_swap _ _
theorem cmpQ_gt {x y : Rat} : 0 < cmpQ x y ↔ y < x := by
  rw [← cmpQ_neg (x := y) (y := x), cmpQ_swap x y]
  omega
theorem cmpQ_ge {x y : Rat} : 0 ≤ cmpQ x y ↔ ¬ x < y := by
  rw [← cmpQ_neg (x := x) (y := y)]
  omega
theorem cmpQ_le {x y : Rat} : cmpQ x y ≤ 0 ↔ ¬ y < x := by
  rw [← cmpQ_gt (x := x) (y := y)]
  omega
theorem rngR_rng (S : Nat → V3) (a : V3) : ∀ k, rngR a S (k + 1) = rng S a k
  | 0 => by
    unfold rngR rng lstQ mstQ
    simp only [if_true, dotI_eq, dotV_comm a]
    refine Prod.ext ?_ ?_ <;> simp
  | k + 1 => by
    have ih := rngR_rng S a k
    rw [show rngR a S (k + 1 + 1) = (lstQ (rngR a S (k + 1)).1 (dotI a (S (k + 1))), mstQ (rngR a S (k + 1)).2 (dotI a (S (k + 1)))) from rfl, ih, dotI_eq, dotV_comm a]
    rw [show rng S a (k + 1) = (if cmpQ (dotV (S (k + 1)) a - (rng S a k).1) 0 < 0 then dotV (S (k + 1)) a else (rng S a k).1, if 0 < cmpQ (dotV (S (k + 1)) a - (rng S a k).2) 0 then dotV (S (k + 1)) a else (rng S a k).2) from rfl]
    generalize dotV (S (k + 1)) a = x
    generalize rng S a k = q
    obtain ⟨lo, hi⟩ := q
    refine Prod.ext ?_ ?_
    · show lstQ lo x = (if cmpQ (x - lo) 0 < 0 then x else lo)
      unfold lstQ
      by_cases h : x < lo
      · rw [if_neg (by rw [cmpQ_le]; exact fun k => k h), if_pos (by rw [cmpQ_neg]; grind)]
      · rw [if_pos (by rw [cmpQ_le]; exact h), if_neg (by rw [cmpQ_neg]; grind)]
    · show mstQ hi x = (if 0 < cmpQ (x - hi) 0 then x else hi)
      unfold mstQ
      by_cases h : hi < x
      · rw [if_neg (by rw [cmpQ_ge]; exact fun k => k h), if_pos (by rw [cmpQ_gt]; grind)]
      · rw [if_pos (by rw [cmpQ_ge]; exact h), if_neg (by rw [cmpQ_gt]; grind)]

end Go.Proofs.YtgbabmkclojgeaaGreatDoor

/- The law VectorRanges: the walks. -/
namespace Go.Proofs.YtgbabmkclojgeaaGreatDoor
open Go.RowKit Go.Shelf Go.Sort

attribute [local go_sem] Oper.semAt_some vec_guard vec_eq ivl_guard ivl_eq

set_option maxRecDepth 100000 in
set_option maxHeartbeats 4000000 in
theorem la_FewL (b o n c : Nat) (S : Nat → ByteArray × ByteArray × ByteArray) (r : Bool) (w : World) (hn : n ≤ 9223372036854775807) (hS : VecsAt w b o n S) (hs : ∀ i, i < n → (S i).1.size ≤ 9223372036854775807 ∧ (S i).2.1.size ≤ 9223372036854775807 ∧ (S i).2.2.size ≤ 9223372036854775807)
    (hr0 : (∀ i, i < n → Sh20 (S i)) → r = true) (hr1 : (∃ i, i < n ∧ ¬ Sh20 (S i)) → r = false) :
    Calls Tryz.prog 46 #[.slice (some ⟨b, o, none⟩) n c] w fun e w' => e = .returned (.bool r) ∧ Below w.heap.size w w' := by
  have HS := Lib.hid hS
  have HZ := Lib.hid hs
  have HR0 := Lib.hid hr0
  have HR1 := Lib.hid hr1
  clear hS hs hr0 hr1
  go_enter Tryz.func46, Tryz.ntmps46
  go_wp2_with fail
  go_loopw [3] (fun x wr => ∃ k : Nat, k ≤ n ∧ x = .int .i64 k ∧ Below w.heap.size w wr ∧ Hid (∀ i, i < k → Sh20 (S i))) (fun x _ => n - (intOf x).toNat)
  case atStart => exact ⟨0, Nat.zero_le _, rfl, Below.refl _ _, Lib.hid (fun i hi => absurd hi (by omega))⟩
  case round =>
    obtain ⟨k, hk, rfl, hBr, HI⟩ := hrel
    by_cases hlt : k < n
    · obtain ⟨c0, c1, c2⟩ := (HS.out.below hBr) k hlt
      obtain ⟨z0, z1, z2⟩ := HZ.out k hlt
      have HI2 : Hid ((S k).1.size ≤ 20 → (S k).2.1.size ≤ 20 → (S k).2.2.size ≤ 20 → ∀ i, i < k + 1 → Sh20 (S i)) := Lib.hid (fun h1 h2 h3 i hi => by
        by_cases e : i = k
        · rw [e]; exact ⟨h1, h2, h3⟩
        · exact HI.out i (by omega))
      have HI3 : Hid (¬ ((S k).1.size ≤ 20 ∧ (S k).2.1.size ≤ 20 ∧ (S k).2.2.size ≤ 20) → r = false) := Lib.hid (fun h => HR1.out ⟨k, hlt, h⟩)
      clear HI
      generalize (S k).1 = s1 at *
      generalize (S k).2.1 = s2 at *
      generalize (S k).2.2 = s3 at *
      by_cases h1 : s1.size ≤ 20
      · by_cases h2 : s2.size ≤ 20
        · by_cases h3 : s3.size ≤ 20
          · have HI4 := Lib.hid (HI2.out h1 h2 h3)
            go_wp2_with fail
            go_roundw
            case rel => exact ⟨k + 1, by omega, by go_num, hBr, HI4⟩
            case measure => simp [intOf]; omega
          · have HI4 := Lib.hid (HI3.out (fun h => h3 h.2.2))
            go_wp2_with fail
            go_ret
            rw [HI4.out]
            exact ⟨rfl, hBr⟩
        · have HI4 := Lib.hid (HI3.out (fun h => h2 h.2.1))
          go_wp2_with fail
          go_ret
          rw [HI4.out]
          exact ⟨rfl, hBr⟩
      · have HI4 := Lib.hid (HI3.out (fun h => h1 h.1))
        go_wp2_with fail
        go_ret
        rw [HI4.out]
        exact ⟨rfl, hBr⟩
    · have hkn : k = n := by omega
      have HV2 : Hid (r = true) := Lib.hid (HR0.out (fun i hi => HI.out i (by omega)))
      go_wp2_with fail
      go_ret
      rw [HV2.out]
      exact ⟨rfl, hBr⟩

theorem end2 {V Y : World} {r : Nat} {x0 x1 : Value} {t : TypeId} (hv : Below V.heap.size V Y) (hr : Y.heap[r]? = some (.cells #[x0, x1] t (0, 0))) (hle : V.heap.size ≤ r) (a b : Value) :
    ((Y.setCell ⟨r, 0, none⟩ a).setCell ⟨r, 1, none⟩ b).heap[r]? = some (.cells #[a, b] t (0, 0)) ∧ Below V.heap.size V ((Y.setCell ⟨r, 0, none⟩ a).setCell ⟨r, 1, none⟩ b) :=
  ⟨store2 hr _ _, store2_below hv hle _ _⟩
theorem endN2 {V Y : World} (hv : Below V.heap.size V Y) (o : Obj) : (Y.alloc o).heap[Y.heap.size]? = some o ∧ Below V.heap.size V (Y.alloc o) := ⟨heap_alloc_new _ _, bstep hv (A1 rfl).1⟩
/-- The points that a slice holds. -/
def PtsAt (W : World) (v : Value) (n : Nat) (T : Nat → ByteArray × ByteArray × ByteArray) : Prop := ∃ (A : Option Addr) (c : Nat), v = .slice A n c ∧ n ≤ c ∧ c ≤ 9223372036854775807 ∧ (n = 0 ∨ ∃ b o, A = some ⟨b, o, none⟩ ∧ VecsAt W b o n T)
theorem PtsAt.below {W W' : World} {v : Value} {n : Nat} {T : Nat → ByteArray × ByteArray × ByteArray} (h : PtsAt W v n T) (hb : Below W.heap.size W W') : PtsAt W' v n T := by
  obtain ⟨A, c, e1, e2, e3, h⟩ := h
  refine ⟨A, c, e1, e2, e3, ?_⟩
  rcases h with h | ⟨b, o, e4, h⟩
  · exact .inl h
  · exact .inr ⟨b, o, e4, h.below hb⟩


set_option maxRecDepth 100000 in
set_option maxHeartbeats 4000000 in
theorem la11_rng_no (A : Option Addr) (n c : Nat) (a0 a1 a2 : ByteArray) (r1 r2 : Bool) (w : World) (hE : Env w) (hr : (r1 && r2) = false ∨ ((r1 && r2) = true ∧ 8 < n ∧ n ≠ 1537))
    (hf1 : ∀ W, Below w.heap.size w W → Calls Tryz.prog 46 #[.slice A n c] W fun e w' => e = .returned (.bool r1) ∧ Below W.heap.size W w')
    (hf2 : ∀ N t W, W.heap[N]? = some (.cells #[.string a0, .string a1, .string a2] t (0, 0)) → Calls Tryz.prog 19 #[.agg #[.string ⟨#[]⟩, .string ⟨#[]⟩, .string ⟨#[]⟩, .string ⟨#[]⟩], .string ⟨#[]⟩, .slice (some ⟨N, 0, none⟩) 1 1] W fun e w' => e = .returned (.bool r2) ∧ Below W.heap.size W w') :
    Calls Tryz.prog 7 #[.slice A n c, .agg #[.string a0, .string a1, .string a2]] w fun e w' => e = .returned (.bool true) ∧ Below w.heap.size w w' := by
  have HF1 := Lib.hid hf1
  have HF2 := Lib.hid hf2
  have HE := Lib.hid hE
  clear hE hf1 hf2
  have HR := Lib.hid hr
  clear hr
  cases r1
  · clear HR
    go_enter Tryz.func7, Tryz.ntmps7
    go_wp2_with fail
    generalize hW : World.alloc w _ = W
    obtain ⟨hB, hsz, R3⟩ := A1 hW
    have R3 := Lib.hid R3
    clear hW hsz
    refine (la_awake _ (HE.out.below hB)).mono ?_
    rintro e w1 ⟨rfl, hb⟩
    replace hB := bstep hB hb
    have R3 := Lib.hid (keep hb R3.out)
    clear hb
    go_wp2_with fail
    refine (HF1.out _ hB).mono ?_
    rintro e w2 ⟨rfl, hb⟩
    replace hB := bstep hB hb
    have R3 := Lib.hid (keep hb R3.out)
    clear hb
    go_wp2_with fail
    refine (la_awake _ (HE.out.below hB)).mono ?_
    rintro e w9 ⟨rfl, hb⟩
    go_wp2_with fail
    go_ret
    exact ⟨rfl, bstep hB hb⟩
  · cases r2
    · clear HR
      go_enter Tryz.func7, Tryz.ntmps7
      go_wp2_with fail
      generalize hW : World.alloc w _ = W
      obtain ⟨hB, hsz, R3⟩ := A1 hW
      have R3 := Lib.hid R3
      clear hW hsz
      refine (la_awake _ (HE.out.below hB)).mono ?_
      rintro e w1 ⟨rfl, hb⟩
      replace hB := bstep hB hb
      have R3 := Lib.hid (keep hb R3.out)
      clear hb
      go_wp2_with fail
      refine (HF1.out _ hB).mono ?_
      rintro e w2 ⟨rfl, hb⟩
      replace hB := bstep hB hb
      have R3 := Lib.hid (keep hb R3.out)
      clear hb
      obtain ⟨R3c0, R3c1, R3c2, R3f0, R3f1, R3f2⟩ := row3 R3.out
      go_wp2_with fail
      clear R3c0 R3c1 R3c2 R3f0 R3f1 R3f2
      generalize hW : World.alloc _ _ = X
      obtain ⟨hb, hsz, RS⟩ := A1 hW
      replace hB := bstep hB hb
      have R3 := Lib.hid (keep hb R3.out)
      clear hb
      have RS := Lib.hid RS
      clear hW hsz
      refine (HF2.out _ _ _ RS.out).mono ?_
      rintro e w3 ⟨rfl, hb⟩
      replace hB := bstep hB hb
      have R3 := Lib.hid (keep hb R3.out)
      clear hb
      go_wp2_with fail
      refine (la_awake _ (HE.out.below hB)).mono ?_
      rintro e w9 ⟨rfl, hb⟩
      go_wp2_with fail
      go_ret
      exact ⟨rfl, bstep hB hb⟩
    · have hr : 8 < n ∧ n ≠ 1537 := by
        rcases HR.out with h | ⟨_, h⟩
        · cases h
        · exact h
      have h8 : decide ((8 : Int) < (n : Int)) = true := by rw [decide_eq_true_iff]; omega
      have h9 : ((n : Int) == 1537) = false := by rw [beq_eq_false_iff_ne]; omega
      clear HR hr
      go_enter Tryz.func7, Tryz.ntmps7
      go_wp2_with fail
      generalize hW : World.alloc w _ = W
      obtain ⟨hB, hsz, R3⟩ := A1 hW
      have R3 := Lib.hid R3
      clear hW hsz
      refine (la_awake _ (HE.out.below hB)).mono ?_
      rintro e w1 ⟨rfl, hb⟩
      replace hB := bstep hB hb
      have R3 := Lib.hid (keep hb R3.out)
      clear hb
      go_wp2_with fail
      refine (HF1.out _ hB).mono ?_
      rintro e w2 ⟨rfl, hb⟩
      replace hB := bstep hB hb
      have R3 := Lib.hid (keep hb R3.out)
      clear hb
      obtain ⟨R3c0, R3c1, R3c2, R3f0, R3f1, R3f2⟩ := row3 R3.out
      go_wp2_with fail
      clear R3c0 R3c1 R3c2 R3f0 R3f1 R3f2
      generalize hW : World.alloc _ _ = X
      obtain ⟨hb, hsz, RS⟩ := A1 hW
      replace hB := bstep hB hb
      have R3 := Lib.hid (keep hb R3.out)
      clear hb
      have RS := Lib.hid RS
      clear hW hsz
      refine (HF2.out _ _ _ RS.out).mono ?_
      rintro e w3 ⟨rfl, hb⟩
      replace hB := bstep hB hb
      have R3 := Lib.hid (keep hb R3.out)
      clear hb
      go_wp2_with fail
      refine (la_awake _ (HE.out.below hB)).mono ?_
      rintro e w9 ⟨rfl, hb⟩
      go_wp2_with fail
      go_ret
      exact ⟨rfl, bstep hB hb⟩


set_option maxRecDepth 100000 in
set_option maxHeartbeats 16000000 in
theorem la11_rng_yes (A : Option Addr) (n c : Nat) (a0 a1 a2 x0 x1 : ByteArray) (cc : Int) (T : Nat → ByteArray × ByteArray × ByteArray) (w : World) (hE : Env w) (hn : n ≤ 8 ∨ n = 1537)
    (hf1 : ∀ W, Below w.heap.size w W → Calls Tryz.prog 46 #[.slice A n c] W fun e w' => e = .returned (.bool true) ∧ Below W.heap.size W w')
    (hf2 : ∀ N t W, W.heap[N]? = some (.cells #[.string a0, .string a1, .string a2] t (0, 0)) → Calls Tryz.prog 19 #[.agg #[.string ⟨#[]⟩, .string ⟨#[]⟩, .string ⟨#[]⟩, .string ⟨#[]⟩], .string ⟨#[]⟩, .slice (some ⟨N, 0, none⟩) 1 1] W fun e w' => e = .returned (.bool true) ∧ Below W.heap.size W w')
    (hcl : ∀ W, Below w.heap.size w W → Calls Tryz.prog 48 #[.slice A n c] W fun e w' => ∃ v', e = .returned v' ∧ PtsAt w' v' n T ∧ Below W.heap.size W w')
    (h1 : ∀ W v', Env W → PtsAt W v' n T → Calls Tryz.prog 47 #[v', .agg #[.string a0, .string a1, .string a2]] W fun e w' => e = .returned (.tuple #[.agg #[.string x0, .string x1], .int .i64 cc]) ∧ Below W.heap.size W w')
    (h2 : ∀ W, Below w.heap.size w W → Calls Tryz.prog 49 #[.slice A n c, .agg #[.string a0, .string a1, .string a2]] W fun e w' => e = .returned (.tuple #[.agg #[.string x0, .string x1], .int .i64 cc]) ∧ Below W.heap.size W w') :
    Calls Tryz.prog 7 #[.slice A n c, .agg #[.string a0, .string a1, .string a2]] w fun e w' => e = .returned (.bool true) ∧ Below w.heap.size w w' := by
  have HF1 := Lib.hid hf1
  have HF2 := Lib.hid hf2
  have HCL := Lib.hid hcl
  have H1 := Lib.hid h1
  have H2 := Lib.hid h2
  have HE := Lib.hid hE
  clear hE hf1 hf2 hcl h1 h2
  have h8 : ∃ b, decide ((8 : Int) < (n : Int)) = b := ⟨_, rfl⟩
  obtain ⟨b8, h8⟩ := h8
  have h9 : b8 = true → ((n : Int) == 1537) = true := by
    intro h
    rw [h, decide_eq_true_iff] at h8
    rw [beq_iff_eq]
    omega
  cases b8
  all_goals
    first | (have h9 := h9 rfl) | clear h9
    go_enter Tryz.func7, Tryz.ntmps7
    go_wp2_with fail
    generalize hW : World.alloc w _ = W
    obtain ⟨hB, hsz, R3⟩ := A1 hW
    have R3 := Lib.hid R3
    clear hW hsz
    refine (la_awake _ (HE.out.below hB)).mono ?_
    rintro e w1 ⟨rfl, hb⟩
    replace hB := bstep hB hb
    have R3 := Lib.hid (keep hb R3.out)
    clear hb
    go_wp2_with fail
    refine (HF1.out _ hB).mono ?_
    rintro e w2 ⟨rfl, hb⟩
    replace hB := bstep hB hb
    have R3 := Lib.hid (keep hb R3.out)
    clear hb
    obtain ⟨R3c0, R3c1, R3c2, R3f0, R3f1, R3f2⟩ := row3 R3.out
    go_wp2_with fail
    clear R3c0 R3c1 R3c2 R3f0 R3f1 R3f2
    generalize hW : World.alloc _ _ = X
    obtain ⟨hb, hsz, RS⟩ := A1 hW
    replace hB := bstep hB hb
    have R3 := Lib.hid (keep hb R3.out)
    clear hb
    have RS := Lib.hid RS
    clear hW hsz
    refine (HF2.out _ _ _ RS.out).mono ?_
    rintro e w3 ⟨rfl, hb⟩
    replace hB := bstep hB hb
    have R3 := Lib.hid (keep hb R3.out)
    clear hb
    go_upto_region 3 with fail
    have T1 := Lib.hid (fun W (hb : Below w3.heap.size w3 W) => HCL.out W (bstep hB hb))
    have T2 := Lib.hid (fun W (hb : Below w3.heap.size w3 W) v' (k : PtsAt W v' n T) => H1.out W v' (HE.out.below (bstep hB hb)) k)
    clear HF1 HF2 HCL H1
    go_cut [5, 6] (fun x y wc => ∃ (i : Nat), x = .pointer (some ⟨i, 0, none⟩) ∧ y = .int .i64 cc ∧ Hid (wc.heap[i]? = some (.cells #[.string x0, .string x1] 73 (0, 0))) ∧ Hid (Below w3.heap.size w3 wc))
    case first =>
      have LR3 := fun (w' : World) (h : Ap w3.heap.size w3.heap.size w3 w') => rowc3 (h.rowV R3.out)
      have hvr := Below.refl w3.heap.size w3
      have hv0 := hvr.drew
      first
      | go_region_held3 (fun w' => Ap w3.heap.size w3.heap.size w3 w') (first | (with_reducible assumption) | (with_reducible exact Ap.refl _ _ _) | ((repeat (first | with_reducible assumption | with_reducible exact Ap.refl _ _ _ | with_reducible refine Ap.drew ?_ | with_reducible refine Ap.alloc ?_ | with_reducible refine Ap.set1 ?_ | with_reducible refine Ap.set2 ?_ | with_reducible refine Ap.setN (by first | with_reducible assumption | with_reducible exact Nat.le_refl _ | with_reducible exact Nat.le_add_right _ _ | with_reducible exact Nat.le_trans (by assumption) (Nat.le_add_right _ _)) ?_)); done))
          (first
            | (go_at_call 48; (with_reducible refine (T1.out _ (by first | with_reducible exact hv0 | with_reducible exact bstep hv0 (A1 rfl).1 | with_reducible exact (bstep hv0 (A1 rfl).1).drew | with_reducible exact (bstep hvr (A1 rfl).1).drew)).mono ?_); rintro e wq0 ⟨vc, rfl, hk_c, hb⟩; have hv1 : Below w3.heap.size w3 wq0 := (by first | with_reducible exact bstep (hv0) hb | with_reducible exact bstep (bstep hv0 (A1 rfl).1) hb | with_reducible exact bstep ((bstep hv0 (A1 rfl).1).drew) hb | with_reducible exact bstep ((bstep hvr (A1 rfl).1).drew) hb); have hs1 := Ap.of_below (g := w3.heap.size) (h := w3.heap.size) hv1; have sz1 := hv1.size; (first | (have RN0 : RowKit.Hid (wq0.heap[w3.heap.size]? = some (.cells #[.string ⟨#[]⟩, .string ⟨#[]⟩] 73 (0, 0))) := Lib.hid (by first | exact one_new hb | exact one_newD hb)) | skip); (first | (have RNg := lt_of_row RN0.out; have RNh := Nat.ne_of_lt RNg; have RNi := Nat.ne_of_gt RNg) | skip); have KC := Lib.hid hk_c; clear hk_c; clear hb)
            | (go_at_call 47; (with_reducible refine (T2.out _ (by first | with_reducible exact hv1 | with_reducible exact bstep hv1 (A1 rfl).1 | with_reducible exact (bstep hv1 (A1 rfl).1).drew | with_reducible exact (bstep hvr (A1 rfl).1).drew) vc (by first | with_reducible exact KC.out | with_reducible exact (KC.out.below (Below.drew (Below.refl _ _))) | with_reducible exact (KC.out.below (A1 rfl).1) | with_reducible exact ((KC.out.below (A1 rfl).1).below (Below.drew (Below.refl _ _))))).mono ?_); rintro e wq1 ⟨rfl, hb⟩; have hv2 : Below w3.heap.size w3 wq1 := (by first | with_reducible exact bstep (hv1) hb | with_reducible exact bstep (bstep hv1 (A1 rfl).1) hb | with_reducible exact bstep ((bstep hv1 (A1 rfl).1).drew) hb | with_reducible exact bstep ((bstep hvr (A1 rfl).1).drew) hb); have hs2 := Ap.of_below (g := w3.heap.size) (h := w3.heap.size) hv2; have sz2 := hv2.size; have KC := Lib.hid (by first | with_reducible exact KC.out.below hb | with_reducible exact (KC.out.below (Below.drew (Below.refl _ _))).below hb | with_reducible exact (KC.out.below (A1 rfl).1).below hb | with_reducible exact ((KC.out.below (A1 rfl).1).below (Below.drew (Below.refl _ _))).below hb); (first | (with_reducible have RN0 := Lib.hid (keep hb RN0.out)) | (with_reducible have RN0 := Lib.hid (keep hb (old1 RN0.out))) | skip); (first | (have RN1 : RowKit.Hid (wq1.heap[wq0.heap.size]? = some (.cells #[.string ⟨#[]⟩, .string ⟨#[]⟩] 73 (0, 0))) := Lib.hid (by first | exact one_new hb | exact one_newD hb)) | skip); (first | (have RNg := lt_of_row RN1.out; have RNh := Nat.ne_of_lt RNg; have RNi := Nat.ne_of_gt RNg) | skip); (first | (have RNx := row2 RN0.out; obtain ⟨RNf00, RNf01, RNf02, RNf03⟩ := RNx) | skip); (first | (have RNx := row2 RN1.out; obtain ⟨RNf10, RNf11, RNf12, RNf13⟩ := RNx) | skip); clear hb))
      | fail
      all_goals
        go_wp2_with fail
        go_meet
        first
        | (have E := endN2 hv2 (.cells #[.string x0, .string x1] 73 (0, 0)); with_reducible exact ⟨_, rfl, rfl, Lib.hid E.1, Lib.hid E.2⟩)
        | (have E := end2 hv2 RN0.out (by first | exact Nat.le_refl _ | assumption) (.string x0) (.string x1); with_reducible exact ⟨_, rfl, rfl, Lib.hid E.1, Lib.hid E.2⟩)
        | (have E := end2 hv2 RN1.out (by first | exact Nat.le_refl _ | assumption) (.string x0) (.string x1); with_reducible exact ⟨_, rfl, rfl, Lib.hid E.1, Lib.hid E.2⟩)
    case rest =>
      obtain ⟨i, rfl, rfl, RP, hbw⟩ := hcut
      have hb := hbw.out
      have R3 := Lib.hid (keep hb R3.out)
      replace hB := bstep hB hb
      clear hb hbw
      obtain ⟨R3c0, R3c1, R3c2, R3f0, R3f1, R3f2⟩ := row3 R3.out
      go_wp2_with fail
      clear R3c0 R3c1 R3c2 R3f0 R3f1 R3f2
      refine (H2.out _ hB).mono ?_
      rintro e w5 ⟨rfl, hb⟩
      replace hB := bstep hB hb
      have RP := Lib.hid (keep hb RP.out)
      clear hb
      go_upto_region 5 with fail
      generalize hW : World.alloc _ _ = Y
      obtain ⟨hb, hsz, RQ⟩ := A1 hW
      replace hB := bstep hB hb
      have RP := Lib.hid (keep hb RP.out)
      clear hb
      have RQ := Lib.hid RQ
      clear hW hsz
      obtain ⟨e0, e1, e2, e3⟩ := row2 RP.out
      obtain ⟨RQc0, RQc1, RQf0, RQf1⟩ := row2 RQ.out
      go_wp2_with fail
      go_ret
      exact ⟨rfl, hB⟩

end Go.Proofs.YtgbabmkclojgeaaGreatDoor

/- The law VectorRanges answers true at whatever slice of vectors. -/
namespace Go.Proofs.YtgbabmkclojgeaaGreatDoor
open Go.RowKit Go.Shelf Go.Sort

set_option maxRecDepth 100000 in
set_option maxHeartbeats 4000000 in
theorem la_Few0 (A : Option Addr) (c : Nat) (w : World) :
    Calls Tryz.prog 46 #[.slice A 0 c] w fun e w' => e = .returned (.bool true) ∧ Below w.heap.size w w' := by
  go_enter Tryz.func46, Tryz.ntmps46
  go_wp2_with fail
  go_loopw [3] (fun x wr => x = .int .i64 0 ∧ Below w.heap.size w wr) (fun x _ => 1 - (intOf x).toNat)
  case atStart => exact ⟨rfl, Below.refl _ _⟩
  case round =>
    obtain ⟨rfl, hB⟩ := hrel
    go_wp2_with fail
    go_ret
    exact ⟨rfl, hB⟩
theorem few_one {a0 a1 a2 : ByteArray} (ha : Mx (a0, a1, a2)) (f : Bool) (h0 : Sh20 (a0, a1, a2) → f = true) (h1 : ¬ Sh20 (a0, a1, a2) → f = false) (N : Nat) (t : TypeId) (W : World)
    (h : W.heap[N]? = some (.cells #[.string a0, .string a1, .string a2] t (0, 0))) :
    Calls Tryz.prog 19 #[.agg #[.string ⟨#[]⟩, .string ⟨#[]⟩, .string ⟨#[]⟩, .string ⟨#[]⟩], .string ⟨#[]⟩, .slice (some ⟨N, 0, none⟩) 1 1] W fun e w' => e = .returned (.bool f) ∧ Below W.heap.size W w' := by
  have hfew := la_few ⟨#[]⟩ ⟨#[]⟩ ⟨#[]⟩ ⟨#[]⟩ ⟨#[]⟩ (.slice (some ⟨N, 0, none⟩) 1 1) true f W mkE mkE
    (fun N' W' h' => la_Few1 ⟨mkE, mkE, mkE⟩ true (fun _ => rfl) (fun hn => absurd ⟨by decide, by decide, by decide⟩ hn) N' W' h')
    (fun W' hB => la_Few1 ha f h0 h1 N W' (keep hB h))
  have e : fewR ⟨#[]⟩ ⟨#[]⟩ true f = f := by unfold fewR; cases f <;> rfl
  rwa [e] at hfew

/-- The cells of points, one behind the other. -/
def txc (s : ByteArray × ByteArray × ByteArray) : Nat → ByteArray
  | 0 => s.1
  | 1 => s.2.1
  | _ => s.2.2
def ptc (T : Nat → ByteArray × ByteArray × ByteArray) (n : Nat) : List Value := (List.range (n * 3)).map fun j => .string (txc (T (j / 3)) (j % 3))
theorem ptc_get {T : Nat → ByteArray × ByteArray × ByteArray} {n j : Nat} (h : j < n * 3) : (ptc T n)[j]? = some (.string (txc (T (j / 3)) (j % 3))) := by
  unfold ptc
  rw [List.getElem?_map, List.getElem?_range h]
  rfl
theorem ptc_at {T : Nat → ByteArray × ByteArray × ByteArray} {n i r : Nat} (h : i < n) (hr : r < 3) : (ptc T n)[i * 3 + r]? = some (.string (txc (T i) r)) := by
  rw [ptc_get (by omega), show (i * 3 + r) / 3 = i by omega, show (i * 3 + r) % 3 = r by omega]
theorem vecsAt_txc {W : World} {b o n : Nat} {T : Nat → ByteArray × ByteArray × ByteArray} (h : VecsAt W b o n T) (j : Nat) (hj : j < n * 3) : W.cell? ⟨b, o + j, none⟩ = some (.string (txc (T (j / 3)) (j % 3))) := by
  obtain ⟨h0, h1, h2⟩ := h (j / 3) (by omega)
  have e : j = j / 3 * 3 + j % 3 := by omega
  have k : j % 3 = 0 ∨ j % 3 = 1 ∨ j % 3 = 2 := by omega
  rcases k with k | k | k
  · rw [k, show o + j = o + j / 3 * 3 by omega]
    exact h0
  · rw [k, show o + j = o + j / 3 * 3 + 1 by omega]
    exact h1
  · rw [k, show o + j = o + j / 3 * 3 + 2 by omega]
    exact h2
theorem pts_of_owns {W : World} {base n : Nat} {v : Value} {t : TypeId} {T : Nat → ByteArray × ByteArray × ByteArray} (h : W.ownsRow base t 3 v n (ptc T n)) : PtsAt W v n T := by
  obtain ⟨_, h | ⟨g, cap, cur, rfl, _, hg, h1, h2, h3, h4⟩⟩ := h
  · obtain ⟨rfl, rfl⟩ := h
    exact ⟨none, 0, rfl, Nat.le_refl _, Nat.zero_le _, .inl rfl⟩
  · refine ⟨some ⟨g, 0, none⟩, cap, rfl, h1, Nat.le_trans h2 (by decide), .inr ⟨g, 0, rfl, ?_⟩⟩
    have at_ : ∀ j, j < n * 3 → W.cell? ⟨g, 0 + j, none⟩ = some (.string (txc (T (j / 3)) (j % 3))) := by
      intro j hj
      rw [Nat.zero_add, cell_of_row W g j _ _ _ hg, ← ptc_get hj, ← h4, List.getElem?_take_of_lt hj, Array.getElem?_toList]
    intro i hi
    have k0 := at_ (i * 3) (by omega)
    have k1 := at_ (i * 3 + 1) (by omega)
    have k2 := at_ (i * 3 + 2) (by omega)
    rw [show i * 3 / 3 = i by omega, show i * 3 % 3 = 0 by omega] at k0
    rw [show (i * 3 + 1) / 3 = i by omega, show (i * 3 + 1) % 3 = 1 by omega] at k1
    rw [show (i * 3 + 2) / 3 = i by omega, show (i * 3 + 2) % 3 = 2 by omega] at k2
    exact ⟨k0, k1, k2⟩
theorem first_bad (p : Nat → Bool) : ∀ n, (∀ i, i < n → p i = true) ∨ ∃ m, m < n ∧ p m = false ∧ ∀ i, i < m → p i = true
  | 0 => .inl fun i hi => absurd hi (by omega)
  | n + 1 => by
    rcases first_bad p n with h | ⟨m, h1, h2, h3⟩
    · cases e : p n with
      | false => exact .inr ⟨n, by omega, e, h⟩
      | true =>
        refine .inl fun i hi => ?_
        by_cases k : i = n
        · rw [k]; exact e
        · exact h i (by omega)
    · exact .inr ⟨m, by omega, h2, h3⟩

theorem la_clone (A : Option Addr) (n c : Nat) (T : Nat → ByteArray × ByteArray × ByteArray) (W : World) (hn : n ≤ 100000) (hA : A = none → n = 0) (hl : n = 0 ∨ ∃ b o, A = some ⟨b, o, none⟩ ∧ VecsAt W b o n T) :
    Calls Tryz.prog 48 #[.slice A n c] W fun e w' => ∃ v', e = .returned v' ∧ PtsAt w' v' n T ∧ Below W.heap.size W w' := by
  cases A with
  | none =>
    obtain rfl := hA rfl
    exact (sl_Clone_nil 0 c W).mono fun e w' ⟨e1, e2⟩ => ⟨_, e1, ⟨none, 0, rfl, Nat.le_refl _, Nat.zero_le _, .inl rfl⟩, e2⟩
  | some a =>
    refine (sl_Clone a n c (ptc T n) W (by unfold ptc; simp) hn ?_ ?_).mono fun e w' ⟨v', e1, e2, _, e3⟩ => ⟨v', e1, pts_of_owns e2, e3⟩
    · intro j u hu
      have hj : j < n * 3 := by
        have := (List.getElem?_eq_some_iff.1 hu).1
        unfold ptc at this
        simpa using this
      rw [ptc_get hj] at hu
      rcases hl with rfl | ⟨b, o, e, hv⟩
      · omega
      · injection e with e
        rw [e, Addr.add_mid, vecsAt_txc hv j hj]
        exact hu
    · intro u hu
      unfold ptc at hu
      obtain ⟨j, _, rfl⟩ := List.mem_map.1 hu
      rfl

/-- What both answer. -/
theorem la_both (n : Nat) (T : Nat → ByteArray × ByteArray × ByteArray) (a : ByteArray × ByteArray × ByteArray) (hn : n ≤ 8 ∨ n = 1537) (hT : ∀ i, i < n → Sh20 (T i)) (ha : Sh20 a) :
    ∃ (x0 x1 : ByteArray) (cc : Int), (∀ W v', Env W → PtsAt W v' n T → Calls Tryz.prog 47 #[v', txW a] W fun e w' => e = .returned (.tuple #[.agg #[.string x0, .string x1], .int .i64 cc]) ∧ Below W.heap.size W w') ∧
      (∀ W A c, (n = 0 ∨ ∃ b o, A = some ⟨b, o, none⟩ ∧ VecsAt W b o n T) → Calls Tryz.prog 49 #[.slice A n c, txW a] W fun e w' => e = .returned (.tuple #[.agg #[.string x0, .string x1], .int .i64 cc]) ∧ Below W.heap.size W w') := by
  obtain ⟨a0, a1, a2⟩ := a
  by_cases h0 : n = 0
  · refine ⟨_, _, _, fun W v' hE hp => ?_, fun W A c _ => r11_Range_none A n c a0 a1 a2 W h0⟩
    obtain ⟨A, c, rfl, _⟩ := hp
    exact ve_Range_none A n c a0 a1 a2 W h0
  by_cases h5 : 1536 < n
  · refine ⟨_, _, _, fun W v' hE hp => ?_, fun W A c _ => r11_Range_long A n c a0 a1 a2 W h5⟩
    obtain ⟨A, c, rfl, _⟩ := hp
    exact ve_Range_long A n c a0 a1 a2 W h5
  have n1 : 1 ≤ n := by omega
  have n2 : n ≤ 1536 := by omega
  have up : ∀ {s : ByteArray × ByteArray × ByteArray}, Sh20 s → s.1.size ≤ 10000000 ∧ s.2.1.size ≤ 10000000 ∧ s.2.2.size ≤ 10000000 := fun h => ⟨Nat.le_trans h.1 (by decide), Nat.le_trans h.2.1 (by decide), Nat.le_trans h.2.2 (by decide)⟩
  have u6 : ∀ {s : ByteArray × ByteArray × ByteArray}, Sh20 s → Sh6 s := fun h => ⟨Nat.le_trans h.1 (by decide), Nat.le_trans h.2.1 (by decide), Nat.le_trans h.2.2 (by decide)⟩
  have hV := fun W (hE : Env W) => ve_Valid a0 a1 a2 W hE (up ha).1 (up ha).2.1 (up ha).2.2
  have sz : ∀ {s : ByteArray × ByteArray × ByteArray}, Sh20 s → SzV 21 (vvX s) := fun h => ⟨sz_rvX h.1 (by decide), sz_rvX h.2.1 (by decide), sz_rvX h.2.2 (by decide)⟩
  cases hav : vvB (a0, a1, a2) with
  | false =>
    have hR : ∀ W, Calls Tryz.prog 80 #[.agg #[.string a0, .string a1, .string a2]] W fun e w' => ∃ u : VS, e = .returned (.tuple #[vW (sgB (vvX (a0, a1, a2)).x.num) (sgB (vvX (a0, a1, a2)).y.num) (sgB (vvX (a0, a1, a2)).z.num) u, .bool false]) ∧ Below W.heap.size W w' := by
      intro W
      have k := r11_From (a0, a1, a2) W (u6 ha)
      rw [hav] at k
      exact k.mono fun e w' ⟨u, e1, _, e2⟩ => ⟨u, e1, e2⟩
    refine ⟨_, _, _, fun W v' hE hp => ?_, fun W A c _ => r11_Range_bada A n c a0 a1 a2 _ _ _ W n1 n2 hR⟩
    obtain ⟨A, c, rfl, _, _, hl⟩ := hp
    rcases hl with hl | ⟨b, o, rfl, hl⟩
    · exact absurd hl h0
    have hv' : (rvB a0 && rvB a1 && rvB a2) = false := hav
    rw [hv'] at hV
    by_cases hall : ∀ i, i < n → vvB (T i) = true
    · exact ve_Range_bad _ n c a0 a1 a2 0 false W hE n1 n2 (.inr ⟨rfl, rfl⟩) (fun W' hB => ve_check b o n c T 0 W' (hE.below hB) (by omega) (hl.below hB) (fun i hi => up (hT i hi)) (fun _ => rfl) (fun ⟨i, hi, hx⟩ => by rw [hall i hi] at hx; cases hx)) hV
    · exact ve_Range_bad _ n c a0 a1 a2 1 false W hE n1 n2 (.inl rfl) (fun W' hB => ve_check b o n c T 1 W' (hE.below hB) (by omega) (hl.below hB) (fun i hi => up (hT i hi)) (fun h => absurd h hall) (fun _ => rfl)) hV
  | true =>
    have hv' : (rvB a0 && rvB a1 && rvB a2) = true := hav
    rw [hv'] at hV
    have hR := fun W => r11_From (a0, a1, a2) W (u6 ha)
    simp only [hav] at hR
    have hF := fun i (hi : i < n) W => r11_From (T i) W (u6 (hT i hi))
    have hS := fun i (hi : i < n) => (sz (hT i hi)).mono (show 21 ≤ 1000 by decide)
    have zA := sz ha
    rcases first_bad (fun i => vvB (T i)) n with hall | ⟨m, m1, m2, m3⟩
    · refine ⟨rs (rngR (vvX (a0, a1, a2)) (fun i => vvX (T i)) n).1, rs (rngR (vvX (a0, a1, a2)) (fun i => vvX (T i)) n).2, 0, fun W v' hE hp => ?_, fun W A c hl => ?_⟩
      · obtain ⟨A, c, rfl, hc1, hc2, hl⟩ := hp
        rcases hl with hl | ⟨b, o, rfl, hl⟩
        · exact absurd hl h0
        have hl' : VecsAt W b o n (txV fun i => vvX (T i)) := by
          intro i hi
          obtain ⟨q0, q1, q2⟩ := hl i hi
          have et := vv_text (hall i hi)
          rw [et] at q0 q1 q2
          exact ⟨q0, q1, q2⟩
        have ea := vv_text hav
        have eq : rng (fun i => vvX (T i)) (vvX (a0, a1, a2)) (n - 1) = rngR (vvX (a0, a1, a2)) (fun i => vvX (T i)) n := by
          have := rngR_rng (fun i => vvX (T i)) (vvX (a0, a1, a2)) (n - 1)
          rw [show n - 1 + 1 = n by omega] at this
          exact this.symm
        have e3 : txW (a0, a1, a2) = vV (vvX (a0, a1, a2)) := by
          show Value.agg #[.string a0, .string a1, .string a2] = _
          generalize vvX (a0, a1, a2) = z at ea
          simp only [Prod.mk.injEq] at ea
          obtain ⟨rfl, rfl, rfl⟩ := ea
          rfl
        rw [e3, ← eq]
        by_cases hc : 1 < c
        · exact ve_RangeL b o n c _ _ W hE n1 n2 hc hc2 hl' (fun i hi => (hS i hi).mono (by decide)) (zA.mono (by decide))
        · obtain rfl : n = 1 := by omega
          obtain rfl : c = 1 := by omega
          exact ve_Range1 b o _ _ W hE hl' (fun i hi => (hS i hi).mono (by decide)) (zA.mono (by decide))
      · rcases hl with hl | ⟨b, o, rfl, hl⟩
        · exact absurd hl h0
        have k := r11_Range_run b n c n o T (fun i => vvX (T i)) (fun i => vvB (T i)) (a0, a1, a2) (vvX (a0, a1, a2)) W n1 n2 hl (Nat.le_refl _) hall (fun h => absurd h (by omega)) hS (zA.mono (by decide)) hF hR
        rw [if_pos rfl] at k
        exact k
    · refine ⟨⟨#[]⟩, ⟨#[]⟩, 1, fun W v' hE hp => ?_, fun W A c hl => ?_⟩
      rotate_left
      · rcases hl with hl | ⟨b, o, rfl, hl⟩
        · exact absurd hl h0
        have k := r11_Range_run b n c m o T (fun i => vvX (T i)) (fun i => vvB (T i)) (a0, a1, a2) (vvX (a0, a1, a2)) W n1 n2 hl (by omega) m3 (fun _ => m2) hS (zA.mono (by decide)) hF hR
        rw [if_neg (by omega)] at k
        exact k
      · obtain ⟨A, c, rfl, _, _, hl⟩ := hp
        rcases hl with hl | ⟨b, o, rfl, hl⟩
        · exact absurd hl h0
        exact ve_Range_bad _ n c a0 a1 a2 1 true W hE n1 n2 (.inl rfl) (fun W' hB => ve_check b o n c T 1 W' (hE.below hB) (by omega) (hl.below hB) (fun i hi => up (hT i hi)) (fun h => absurd (h m m1) (by rw [m2]; decide)) (fun _ => rfl)) hV

theorem la_ranges (A : Option Addr) (n c : Nat) (T : Nat → ByteArray × ByteArray × ByteArray) (a0 a1 a2 : ByteArray) (w : World) (hE : Env w) (hA : A = none → n = 0) (hl : n = 0 ∨ ∃ b o, A = some ⟨b, o, none⟩ ∧ VecsAt w b o n T) (hn : n ≤ 9223372036854775807)
    (hT : ∀ i, i < n → Mx (T i)) (ha : Mx (a0, a1, a2)) :
    Calls Tryz.prog 7 #[.slice A n c, .agg #[.string a0, .string a1, .string a2]] w fun e w' => e = .returned (.bool true) ∧ Below w.heap.size w w' := by
  have hlB : ∀ W, Below w.heap.size w W → (n = 0 ∨ ∃ b o, A = some ⟨b, o, none⟩ ∧ VecsAt W b o n T) := fun W hB => hl.imp id fun ⟨b, o, e, h⟩ => ⟨b, o, e, h.below hB⟩
  have hf1 : ∀ r, ((∀ i, i < n → Sh20 (T i)) → r = true) → ((∃ i, i < n ∧ ¬ Sh20 (T i)) → r = false) → ∀ W, Below w.heap.size w W → Calls Tryz.prog 46 #[.slice A n c] W fun e w' => e = .returned (.bool r) ∧ Below W.heap.size W w' := by
    intro r r0 r1 W hB
    by_cases h0 : n = 0
    · subst h0
      rw [r0 (fun i hi => absurd hi (by omega))]
      exact la_Few0 A c W
    · rcases hlB W hB with h | ⟨b, o, rfl, h⟩
      · exact absurd h h0
      exact la_FewL b o n c T r W hn h hT r0 r1
  by_cases hs : Sh20 (a0, a1, a2)
  · have H2 := few_one ha true (fun _ => rfl) (fun h => absurd hs h)
    by_cases hall : ∀ i, i < n → Sh20 (T i)
    · have H1 := hf1 true (fun _ => rfl) (fun ⟨i, hi, h⟩ => absurd (hall i hi) h)
      by_cases hn8 : n ≤ 8 ∨ n = 1537
      · obtain ⟨x0, x1, cc, k1, k2⟩ := la_both n T (a0, a1, a2) hn8 hall hs
        exact la11_rng_yes A n c a0 a1 a2 x0 x1 cc T w hE hn8 H1 H2 (fun W hB => la_clone A n c T W (by omega) hA (hlB W hB)) k1 (fun W hB => k2 W A c (hlB W hB))
      · exact la11_rng_no A n c a0 a1 a2 true true w hE (.inr ⟨rfl, by omega, by omega⟩) H1 H2
    · exact la11_rng_no A n c a0 a1 a2 false true w hE (.inl rfl) (hf1 false (fun h => absurd h hall) (fun _ => rfl)) H2
  · by_cases hall : ∀ i, i < n → Sh20 (T i)
    · exact la11_rng_no A n c a0 a1 a2 true false w hE (.inl rfl) (hf1 true (fun _ => rfl) (fun ⟨i, hi, h⟩ => absurd (hall i hi) h)) (few_one ha false (fun h => absurd h hs) (fun _ => rfl))
    · exact la11_rng_no A n c a0 a1 a2 false false w hE (.inl rfl) (hf1 false (fun h => absurd h hall) (fun _ => rfl)) (few_one ha false (fun h => absurd h hs) (fun _ => rfl))
end Go.Proofs.YtgbabmkclojgeaaGreatDoor

/- A slice of vectors opened. -/
namespace Go.Proofs.YtgbabmkclojgeaaGreatDoor
open Go.ChangeShapes Go.WideShapes Go.ChangeAt Go.ChangeMaps Go.RowKit Go.Deep

theorem cells_rat : Tryz.prog.cellsOf 22 = 1 := by kernel_rfl

section
variable {H : Type} {enc : TypeId × Value → H} {w : World} {base : Nat} {sp : Nat → Bool} {held : Bool}
set_option maxRecDepth 100000 in
theorem vec_cells {a : Addr} {n : Nat} {cs : List Value} {x : DataW H × List MemPlace} (hc : w.cells? base a 3 = some cs) (h : DataW.trod enc Tryz.prog w base sp held n 28 cs = some x) :
    ∃ s : ByteArray × ByteArray × ByteArray, w.cell? (a.add 0) = some (.string s.1) ∧ w.cell? (a.add 1) = some (.string s.2.1) ∧ w.cell? (a.add 2) = some (.string s.2.2) ∧ Mx s := by
  obtain ⟨ys, n', hn', hy, hlen, hyl, hf⟩ := DataW.trod_struct Tryz.underlying28 h
  obtain ⟨_, hcl, hat⟩ := World.cells?_some hc
  obtain ⟨v0, v1, v2, rfl⟩ : ∃ v0 v1 v2, cs = [v0, v1, v2] := by
    match cs, hcl with
    | [v0, v1, v2], _ => exact ⟨_, _, _, rfl⟩
  obtain ⟨y0, y1, y2, rfl⟩ : ∃ y0 y1 y2, ys = [y0, y1, y2] := by
    match ys, hyl with
    | [y0, y1, y2], _ => exact ⟨_, _, _, rfl⟩
  have k0 : DataW.trod enc Tryz.prog w base sp held n' 22 (List.take (Tryz.prog.cellsOf 22) (List.drop 0 [v0, v1, v2])) = some y0 := hf 0 _ rfl
  have k1 : DataW.trod enc Tryz.prog w base sp held n' 22 (List.take (Tryz.prog.cellsOf 22) (List.drop 1 [v0, v1, v2])) = some y1 := hf 1 _ rfl
  have k2 : DataW.trod enc Tryz.prog w base sp held n' 22 (List.take (Tryz.prog.cellsOf 22) (List.drop 2 [v0, v1, v2])) = some y2 := hf 2 _ rfl
  rw [cells_rat] at k0 k1 k2
  obtain ⟨s0, e0, _, z0⟩ := DataW.trod_string Tryz.underlying22 (show DataW.trod enc Tryz.prog w base sp held n' 22 [v0] = some y0 from k0)
  obtain ⟨s1, e1, _, z1⟩ := DataW.trod_string Tryz.underlying22 (show DataW.trod enc Tryz.prog w base sp held n' 22 [v1] = some y1 from k1)
  obtain ⟨s2, e2, _, z2⟩ := DataW.trod_string Tryz.underlying22 (show DataW.trod enc Tryz.prog w base sp held n' 22 [v2] = some y2 from k2)
  obtain rfl := (List.cons.inj e0).1
  obtain rfl := (List.cons.inj e1).1
  obtain rfl := (List.cons.inj e2).1
  exact ⟨(s0, s1, s2), hat 0 (by decide), hat 1 (by decide), hat 2 (by decide), Nat.le_trans z0 mx_len, Nat.le_trans z1 mx_len, Nat.le_trans z2 mx_len⟩
set_option maxRecDepth 100000 in
theorem open_vecs {r : Reach} {b0 : Nat} {v : Value} {d : DataW H} {p : List MemPlace} (hv : Value.okWide Tryz.prog w r b0 34 v) (h : DataW.Trod enc Tryz.prog w base sp held 34 v d p) :
    ∃ (A : Option Addr) (n c : Nat) (T : Nat → ByteArray × ByteArray × ByteArray), v = .slice A n c ∧ (A = none → n = 0) ∧ (n = 0 ∨ ∃ b o, A = some ⟨b, o, none⟩ ∧ VecsAt w b o n T) ∧ n ≤ 9223372036854775807 ∧ ∀ i, i < n → Mx (T i) := by
  obtain ⟨a0, len, cap, rfl⟩ := okWide_slice Tryz.underlying34 hv
  obtain ⟨fuel, hf⟩ := h
  rcases open_slice Tryz.underlying34 hf with ⟨hcs, hx⟩ | ⟨a, len', cap', m, k, D, Pl, hcs, _, hl, hm, hmm, hx, hi⟩
  · simp [Value.cells] at hcs
    obtain ⟨rfl, rfl, rfl⟩ := hcs
    exact ⟨none, 0, 0, fun _ => (⟨#[]⟩, ⟨#[]⟩, ⟨#[]⟩), rfl, fun _ => rfl, .inl rfl, by decide, fun i hi => absurd hi (by omega)⟩
  · simp [Value.cells] at hcs
    obtain ⟨rfl, rfl, rfl⟩ := hcs
    have hle : len ≤ m := by rw [hmm]; split <;> omega
    have hT : ∀ i, ∃ s : ByteArray × ByteArray × ByteArray, i < len → w.cell? (a.add (i * 3 + 0)) = some (.string s.1) ∧ w.cell? (a.add (i * 3 + 1)) = some (.string s.2.1) ∧ w.cell? (a.add (i * 3 + 2)) = some (.string s.2.2) ∧ Mx s := by
      intro i
      by_cases hlt : i < len
      · obtain ⟨cs', h1, h2⟩ := hi i (by omega)
        rw [cells_vec] at h1
        obtain ⟨s, c0, c1, c2, hs⟩ := vec_cells h1 h2
        rw [add_add] at c0 c1 c2
        exact ⟨s, fun _ => ⟨c0, c1, c2, hs⟩⟩
      · exact ⟨(⟨#[]⟩, ⟨#[]⟩, ⟨#[]⟩), fun k => absurd k hlt⟩
    obtain ⟨T, hT⟩ := Classical.axiomOfChoice hT
    have hcap : len ≤ 9223372036854775807 := Nat.le_trans hl (Nat.le_trans hm mx_len)
    by_cases h0 : len = 0
    · subst h0
      exact ⟨some a, 0, cap, T, rfl, fun _ => rfl, .inl rfl, by decide, fun i hi => absurd hi (by omega)⟩
    · obtain ⟨b, o, spot⟩ := a
      have h00 := (hT 0 (by omega)).1
      have hspot : spot = none := by simpa [Addr.add] using World.cell?_spot h00
      subst hspot
      refine ⟨some ⟨b, o, none⟩, len, cap, T, rfl, fun k => (by cases k), .inr ⟨b, o, rfl, fun i hi => ?_⟩, hcap, fun i hi => (hT i hi).2.2.2⟩
      obtain ⟨c0, c1, c2, _⟩ := hT i hi
      rw [Addr.add_mid] at c0 c1 c2
      exact ⟨by rw [← Nat.add_zero (o + i * 3), Nat.add_assoc]; exact c0, by rw [Nat.add_assoc]; exact c1, by rw [Nat.add_assoc]; exact c2⟩
end
end Go.Proofs.YtgbabmkclojgeaaGreatDoor
