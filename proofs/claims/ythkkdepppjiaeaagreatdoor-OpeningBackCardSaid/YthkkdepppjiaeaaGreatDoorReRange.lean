/- A PART OF THE PROOF, JOINED OUT OF 4 TEXTS. -/
import Derived.Test.YthkkdepppjiaeaaGreatDoorRdRange
import Derived.Test.YthkkdepppjiaeaaGreatDoorPnLaw
import Derived.Test.YthkkdepppjiaeaaGreatDoorQlVector
import Derived.Test.YthkkdepppjiaeaaGreatDoorQoApart
import Derived.Test.YthkkdepppjiaeaaGreatDoorQeRef
import Derived.Test.YthkkdepppjiaeaaGreatDoorPoLaw
import Derived.Test.YthkkdepppjiaeaaGreatDoorPkVector
import Derived.Deep.Slices
import Derived.Deep.Fields
import Derived.Deep.MidRow
import Derived.ChangeSame
/- The program's Range at whatever texts. -/
namespace Go.Proofs.YthkkdepppjiaeaaGreatDoor
open Go.RowKit Go.Shelf Go.Sort

attribute [local go_sem] Oper.semAt_some vec_guard vec_eq


set_option maxRecDepth 100000 in
set_option maxHeartbeats 8000000 in
theorem ve_RangeL (b o n c : Nat) (S : Nat → V3) (a : V3) (w : World) (hE : Env w) (hn : 1 ≤ n) (hn2 : n ≤ 1536) (hc : 1 < c) (hcm : c ≤ 9223372036854775807) (hA : VecsAt w b o n (txV S)) (hS : ∀ i, i < n → SzV 20000 (S i)) (ha : SzV 20000 a) :
    Calls Tryz.prog 84 #[.slice (some ⟨b, o, none⟩) n c, vV a] w fun e w' => e = .returned (.tuple #[.agg #[.string (rs (rng S a (n - 1)).1), .string (rs (rng S a (n - 1)).2)], .int .i64 0]) ∧ Below w.heap.size w w' := by
  have HA := Lib.hid hA
  have hsh := sh_of ha (by decide)
  have HV := fun w hE => ve_Valid (rs a.x) (rs a.y) (rs a.z) w hE hsh.1 hsh.2.1 hsh.2.2
  rw [rvB_rs, rvB_rs, rvB_rs] at HV
  simp only [Bool.and_self] at HV
  have HV := Lib.hid HV
  have HC := Lib.hid (fun (w' : World) (hb : Below w.heap.size w w') => ve_check b o n c (txV S) 0 w' (hE.below hb) (by omega) (hA.below hb) (fun i hi => sh_of (hS i hi) (by decide)) (fun _ => rfl) (fun ⟨i, hi, hv⟩ => by rw [show vvB (txV S i) = true from vvB_rs (S i)] at hv; cases hv))
  have HD := Lib.hid (fun i (hi : i < n) w hE => ve_dot (S i) a w hE ((hS i hi).mono (by decide)) (ha.mono (by decide)))
  have HZ := Lib.hid (fun i (hi : i < n) => sz_rng hS ha i hi)
  have HW := Lib.hid (fun i (hi : i < n) => sz_dot (hS i hi) ha)
  have HE := Lib.hid hE
  clear hE hA hS ha hsh
  have hn0 : ((n : Int) == 0) = false := by rw [beq_eq_false_iff_ne]; omega
  have hn5 : decide ((1536 : Int) < (n : Int)) = false := by rw [decide_eq_false_iff_not]; omega
  have hp : 0 < n := by omega
  have hq : (0 : Int) < (n : Int) := by omega
  unfold vV
  go_enter Tryz.func84, Tryz.ntmps84
  go_wp2_with fail
  generalize hW : (World.alloc w _).alloc _ = W
  obtain ⟨hB, hsz, R3, R4⟩ := A2 hW
  have R3 := Lib.hid R3
  have R4 := Lib.hid R4
  clear hW hsz
  refine (HC.out _ hB).mono ?_
  rintro e w1 ⟨rfl, hb⟩
  replace hB := bstep hB hb
  have R3 := Lib.hid (keep hb R3.out)
  have R4 := Lib.hid (keep hb R4.out)
  clear hb
  obtain ⟨R3c0, R3c1, R3c2, R3f0, R3f1, R3f2⟩ := row3 R3.out
  go_wp2_with fail
  clear R3c0 R3c1 R3c2 R3f0 R3f1 R3f2
  refine (HV.out _ (HE.out.below hB)).mono ?_
  rintro e w2 ⟨rfl, hb⟩
  replace hB := bstep hB hb
  have R3 := Lib.hid (keep hb R3.out)
  have R4 := Lib.hid (keep hb R4.out)
  clear hb
  go_wp2_with fail
  obtain ⟨v0, v1, v2⟩ := (HA.out.below hB) 0 (by omega)
  simp only [Nat.zero_mul, Nat.add_zero] at v0 v1 v2
  unfold txV at v0 v1 v2
  simp only at v0 v1 v2
  have e0 : ∀ d os, (grow (redrawn w2 d) os).cell? ⟨b, o, none⟩ = some (.string (rs (S 0).x)) := fun d os => cell_regrown v0 d os
  have e1 : ∀ d os, (grow (redrawn w2 d) os).cell? ⟨b, o + 1, none⟩ = some (.string (rs (S 0).y)) := fun d os => cell_regrown v1 d os
  have e2 : ∀ d os, (grow (redrawn w2 d) os).cell? ⟨b, o + 2, none⟩ = some (.string (rs (S 0).z)) := fun d os => cell_regrown v2 d os
  have e3 : ∀ d os, (grow (redrawn w2 d) os).cell? ⟨w.heap.size, 0, none⟩ = some (.string (rs a.x)) := fun d os => cell_regrown (row3 R3.out).1 d os
  have e4 : ∀ d os, (grow (redrawn w2 d) os).cell? ⟨w.heap.size, 1, none⟩ = some (.string (rs a.y)) := fun d os => cell_regrown (row3 R3.out).2.1 d os
  have e5 : ∀ d os, (grow (redrawn w2 d) os).cell? ⟨w.heap.size, 2, none⟩ = some (.string (rs a.z)) := fun d os => cell_regrown (row3 R3.out).2.2.1 d os
  have hE := HE.out.below hB
  have S1 := Lib.hid (fun d os => Calls.regrown_of (HD.out 0 (by omega) (grow (redrawn w2 d) os) (hE.below (below_regrown w2 d os))))
  unfold vV at S1
  clear hE v0 v1 v2
  refine wp_region_quiet_below (by kernel_rfl) (by kernel_rfl) ?_
  repeat (first | quiet_step (with_reducible exact S1.out _ _))
  refine wpQuiet_nil ?_
  intro _ hw'
  obtain ⟨⟨dq, osq⟩, hw''⟩ := hw'
  subst hw''
  have hb := below_regrown w2 dq osq
  clear e0 e1 e2 e3 e4 e5 S1
  generalize grow (redrawn w2 dq) osq = W3 at *
  replace hB := bstep hB hb
  have R3 := Lib.hid (keep hb R3.out)
  have R4 := Lib.hid (keep hb R4.out)
  clear hb
  go_wp2_with fail
  have n1 : Hid (w.heap.size ≠ W3.heap.size) := Lib.hid (lp R3.out)
  have n2 : Hid (w.heap.size + 1 ≠ W3.heap.size) := Lib.hid (lp R4.out)
  have n3 : Hid (w.heap.size ≤ W3.heap.size) := Lib.hid (by have := lp2 R3.out; omega)
  generalize hW : World.alloc _ _ = V
  obtain ⟨hb, hsz, R7⟩ := A1 hW
  replace hB := bstep hB hb
  have R3 := Lib.hid (keep hb R3.out)
  have R4 := Lib.hid (keep hb R4.out)
  clear hb
  have R7 := Lib.hid R7
  clear hW hsz
  go_loopw [42] (fun x wr => ∃ k : Nat, k ≤ n - 1 ∧ x = .int .i64 k ∧ Below w.heap.size w wr ∧ Hid (wr.heap[w.heap.size]? = some (.cells #[.string (rs a.x), .string (rs a.y), .string (rs a.z)] 24 (0, 0))) ∧
      Hid (wr.heap[w.heap.size + 1]? = some (.cells #[.string ⟨#[]⟩, .string ⟨#[]⟩] 30 (0, 0))) ∧ Hid (wr.heap[W3.heap.size]? = some (.cells #[.string (rs (rng S a k).1), .string (rs (rng S a k).2)] 30 (0, 0)))) (fun x _ => n - (intOf x).toNat)
  case atStart => exact ⟨0, Nat.zero_le _, rfl, hB, R3, R4, R7⟩
  case round =>
    clear R3 R4 R7 hB
    obtain ⟨k, hk, rfl, hB, R3, R4, R7⟩ := hrel
    by_cases hlt : k < n - 1
    · obtain ⟨v0, v1, v2⟩ := (HA.out.below hB) (k + 1) (by omega)
      rw [show o + (k + 1) * 3 = o + 3 + k * 3 by omega] at v0 v1 v2
      unfold txV at v0 v1 v2
      simp only at v0 v1 v2
      have hz := HZ.out k (by omega)
      have hw := HW.out (k + 1) (by omega)
      have HDk := Lib.hid (fun w hE => HD.out (k + 1) (by omega) w hE)
      have B1 := Lib.hid (fun w hE => ve_sub (dotV (S (k + 1)) a) (rng S a k).1 w hE (hw.mono (by decide)) (hz.1.mono (by decide)))
      have B2 := Lib.hid (fun w hE => ve_sub (dotV (S (k + 1)) a) (rng S a k).2 w hE (hw.mono (by decide)) (hz.2.mono (by decide)))
      have G1 := Lib.hid (fun w hE => ve_sign (dotV (S (k + 1)) a - (rng S a k).1) w hE ((sz_sub hw hz.1).mono (by decide)))
      have G2 := Lib.hid (fun w hE => ve_sign (dotV (S (k + 1)) a - (rng S a k).2) w hE ((sz_sub hw hz.2).mono (by decide)))
      have hr1 : rs (rng S a (k + 1)).1 = if cmpQ (dotV (S (k + 1)) a - (rng S a k).1) 0 < 0 then rs (dotV (S (k + 1)) a) else rs (rng S a k).1 := by
        show rs (if _ then _ else _) = _
        split <;> rfl
      have hr2 : rs (rng S a (k + 1)).2 = if 0 < cmpQ (dotV (S (k + 1)) a - (rng S a k).2) 0 then rs (dotV (S (k + 1)) a) else rs (rng S a k).2 := by
        show rs (if _ then _ else _) = _
        split <;> rfl
      clear hz hw
      unfold vV at HDk
      have HR1 := Lib.hid hr1
      have HR2 := Lib.hid hr2
      clear hr1 hr2
      generalize cmpQ (dotV (S (k + 1)) a - (rng S a k).1) 0 = s1 at *
      generalize cmpQ (dotV (S (k + 1)) a - (rng S a k).2) 0 = s2 at *
      generalize rs (dotV (S (k + 1)) a - (rng S a k).1) = t1 at *
      generalize rs (dotV (S (k + 1)) a - (rng S a k).2) = t2 at *
      generalize rs (dotV (S (k + 1)) a) = x at *
      generalize rs (rng S a k).1 = lo at *
      generalize rs (rng S a k).2 = hi at *
      generalize rs (S (k + 1)).x = c0 at *
      generalize rs (S (k + 1)).y = c1 at *
      generalize rs (S (k + 1)).z = c2 at *
      by_cases h1 : s1 < 0 <;> by_cases h2 : 0 < s2
      all_goals
        obtain ⟨q0, q1, q2, q3, q4, q5⟩ := row3 R3.out
        have q6 := lp2 R3.out
        go_wp2_with fail
        clear q6 q0 q1 q2 q3 q4 q5
        clear v0 v1 v2
        generalize hW : World.alloc _ _ = U
        obtain ⟨hb, hsz, R9⟩ := A1 hW
        replace hB := bstep hB hb
        have R3 := Lib.hid (keep hb R3.out)
        have R4 := Lib.hid (keep hb R4.out)
        have R7 := Lib.hid (keep hb R7.out)
        clear hb
        have R9 := Lib.hid R9
        clear hW hsz
        refine (HDk.out _ (HE.out.below hB)).mono ?_
        rintro e w5 ⟨rfl, hb⟩
        replace hB := bstep hB hb
        have R3 := Lib.hid (keep hb R3.out)
        have R4 := Lib.hid (keep hb R4.out)
        have R7 := Lib.hid (keep hb R7.out)
        clear hb
        obtain ⟨p0, p1, p2, p3⟩ := row2 R7.out
        go_wp2_with fail
        clear p0 p1 p2 p3
        refine (B1.out _ (HE.out.below hB)).mono ?_
        rintro e w6 ⟨rfl, hb⟩
        replace hB := bstep hB hb
        have R3 := Lib.hid (keep hb R3.out)
        have R4 := Lib.hid (keep hb R4.out)
        have R7 := Lib.hid (keep hb R7.out)
        clear hb
        go_wp2_with fail
        refine (G1.out _ (HE.out.below hB)).mono ?_
        rintro e w7 ⟨rfl, hb⟩
        replace hB := bstep hB hb
        have R3 := Lib.hid (keep hb R3.out)
        have R4 := Lib.hid (keep hb R4.out)
        have R7 := Lib.hid (keep hb R7.out)
        clear hb
        obtain ⟨p0, p1, p2, p3⟩ := row2 R7.out
        go_wp2_with fail
        clear p0 p1 p2 p3
      · have hB := set_below hB n3.out (i := 0) (x := .string x)
        have R3 := Lib.hid (set_other n1.out R3.out (i := 0) (x := .string x))
        have R4 := Lib.hid (set_other n2.out R4.out (i := 0) (x := .string x))
        have R7 := Lib.hid (set2_0 R7.out (x := .string x))
        generalize w7.setCell ⟨W3.heap.size, 0, none⟩ (.string x) = X at *
        refine (B2.out _ (HE.out.below hB)).mono ?_
        rintro e w8 ⟨rfl, hb⟩
        replace hB := bstep hB hb
        have R3 := Lib.hid (keep hb R3.out)
        have R4 := Lib.hid (keep hb R4.out)
        have R7 := Lib.hid (keep hb R7.out)
        clear hb
        go_wp2_with fail
        refine (G2.out _ (HE.out.below hB)).mono ?_
        rintro e w9 ⟨rfl, hb⟩
        replace hB := bstep hB hb
        have R3 := Lib.hid (keep hb R3.out)
        have R4 := Lib.hid (keep hb R4.out)
        have R7 := Lib.hid (keep hb R7.out)
        clear hb
        obtain ⟨p0, p1, p2, p3⟩ := row2 R7.out
        go_wp2_with fail
        clear p0 p1 p2 p3
        go_roundw
        case rel => exact ⟨k + 1, by omega, by go_num, set_below hB n3.out, Lib.hid (set_other n1.out R3.out), Lib.hid (set_other n2.out R4.out), Lib.hid (by rw [HR1.out, HR2.out, if_pos h1, if_pos h2]; exact set2_1 R7.out)⟩
        case measure => simp [intOf]; omega
      · have hB := set_below hB n3.out (i := 0) (x := .string x)
        have R3 := Lib.hid (set_other n1.out R3.out (i := 0) (x := .string x))
        have R4 := Lib.hid (set_other n2.out R4.out (i := 0) (x := .string x))
        have R7 := Lib.hid (set2_0 R7.out (x := .string x))
        generalize w7.setCell ⟨W3.heap.size, 0, none⟩ (.string x) = X at *
        refine (B2.out _ (HE.out.below hB)).mono ?_
        rintro e w8 ⟨rfl, hb⟩
        replace hB := bstep hB hb
        have R3 := Lib.hid (keep hb R3.out)
        have R4 := Lib.hid (keep hb R4.out)
        have R7 := Lib.hid (keep hb R7.out)
        clear hb
        go_wp2_with fail
        refine (G2.out _ (HE.out.below hB)).mono ?_
        rintro e w9 ⟨rfl, hb⟩
        replace hB := bstep hB hb
        have R3 := Lib.hid (keep hb R3.out)
        have R4 := Lib.hid (keep hb R4.out)
        have R7 := Lib.hid (keep hb R7.out)
        clear hb
        obtain ⟨p0, p1, p2, p3⟩ := row2 R7.out
        go_wp2_with fail
        clear p0 p1 p2 p3
        go_roundw
        case rel => exact ⟨k + 1, by omega, by go_num, hB, R3, R4, Lib.hid (by rw [HR1.out, HR2.out, if_pos h1, if_neg (show ¬ 0 < s2 by omega)]; exact R7.out)⟩
        case measure => simp [intOf]; omega
      · skip
        refine (B2.out _ (HE.out.below hB)).mono ?_
        rintro e w8 ⟨rfl, hb⟩
        replace hB := bstep hB hb
        have R3 := Lib.hid (keep hb R3.out)
        have R4 := Lib.hid (keep hb R4.out)
        have R7 := Lib.hid (keep hb R7.out)
        clear hb
        go_wp2_with fail
        refine (G2.out _ (HE.out.below hB)).mono ?_
        rintro e w9 ⟨rfl, hb⟩
        replace hB := bstep hB hb
        have R3 := Lib.hid (keep hb R3.out)
        have R4 := Lib.hid (keep hb R4.out)
        have R7 := Lib.hid (keep hb R7.out)
        clear hb
        obtain ⟨p0, p1, p2, p3⟩ := row2 R7.out
        go_wp2_with fail
        clear p0 p1 p2 p3
        go_roundw
        case rel => exact ⟨k + 1, by omega, by go_num, set_below hB n3.out, Lib.hid (set_other n1.out R3.out), Lib.hid (set_other n2.out R4.out), Lib.hid (by rw [HR1.out, HR2.out, if_neg (show ¬ s1 < 0 by omega), if_pos h2]; exact set2_1 R7.out)⟩
        case measure => simp [intOf]; omega
      · skip
        refine (B2.out _ (HE.out.below hB)).mono ?_
        rintro e w8 ⟨rfl, hb⟩
        replace hB := bstep hB hb
        have R3 := Lib.hid (keep hb R3.out)
        have R4 := Lib.hid (keep hb R4.out)
        have R7 := Lib.hid (keep hb R7.out)
        clear hb
        go_wp2_with fail
        refine (G2.out _ (HE.out.below hB)).mono ?_
        rintro e w9 ⟨rfl, hb⟩
        replace hB := bstep hB hb
        have R3 := Lib.hid (keep hb R3.out)
        have R4 := Lib.hid (keep hb R4.out)
        have R7 := Lib.hid (keep hb R7.out)
        clear hb
        obtain ⟨p0, p1, p2, p3⟩ := row2 R7.out
        go_wp2_with fail
        clear p0 p1 p2 p3
        go_roundw
        case rel => exact ⟨k + 1, by omega, by go_num, hB, R3, R4, Lib.hid (by rw [HR1.out, HR2.out, if_neg (show ¬ s1 < 0 by omega), if_neg (show ¬ 0 < s2 by omega)]; exact R7.out)⟩
        case measure => simp [intOf]; omega
    · have hkn : k = n - 1 := by omega
      obtain ⟨R4c0, R4c1, R4f0, R4f1⟩ := row2 R4.out
      obtain ⟨R7c0, R7c1, R7f0, R7f1⟩ := row2 R7.out
      go_wp2_with fail
      rw [← hkn]
      exact bodyPost_ret (res_ct rfl ivl_row rfl (store2 R4.out _ _) rfl) rfl ⟨rfl, store2_below hB (by omega) _ _⟩


theorem dotV_comm (a b : V3) : dotV a b = dotV b a := by unfold dotV; grind
theorem cmpI_swap (a b : Int) : cmpI b a = -cmpI a b := by
  unfold cmpI
  split <;> split <;> (try split) <;> omega
theorem cmpQ_swap (x y : Rat) : cmpQ y x = -cmpQ x y := cmpI_swap _ _
theorem cmpQ_gt {x y : Rat} : 0 < cmpQ x y ↔ y < x := by
  rw [← cmpQ_neg (x := y) (y := x), cmpQ_swap x y]
  omega
end Go.Proofs.YthkkdepppjiaeaaGreatDoor

/- The law VectorRanges: the walks. -/
namespace Go.Proofs.YthkkdepppjiaeaaGreatDoor
open Go.RowKit Go.Shelf Go.Sort

attribute [local go_sem] Oper.semAt_some vec_guard vec_eq

theorem endN2 {V Y : World} (hv : Below V.heap.size V Y) (o : Obj) : (Y.alloc o).heap[Y.heap.size]? = some o ∧ Below V.heap.size V (Y.alloc o) := ⟨heap_alloc_new _ _, bstep hv (A1 rfl).1⟩
/-- The points that a slice holds. -/
def PtsAt (W : World) (v : Value) (n : Nat) (T : Nat → ByteArray × ByteArray × ByteArray) : Prop := ∃ (A : Option Addr) (c : Nat), v = .slice A n c ∧ n ≤ c ∧ c ≤ 9223372036854775807 ∧ (n = 0 ∨ ∃ b o, A = some ⟨b, o, none⟩ ∧ VecsAt W b o n T)
theorem PtsAt.below {W W' : World} {v : Value} {n : Nat} {T : Nat → ByteArray × ByteArray × ByteArray} (h : PtsAt W v n T) (hb : Below W.heap.size W W') : PtsAt W' v n T := by
  obtain ⟨A, c, e1, e2, e3, h⟩ := h
  refine ⟨A, c, e1, e2, e3, ?_⟩
  rcases h with h | ⟨b, o, e4, h⟩
  · exact .inl h
  · exact .inr ⟨b, o, e4, h.below hb⟩


end Go.Proofs.YthkkdepppjiaeaaGreatDoor

/- The law VectorRanges answers true at whatever slice of vectors. -/
namespace Go.Proofs.YthkkdepppjiaeaaGreatDoor
open Go.RowKit Go.Shelf Go.Sort

/-- The cells of points, one behind the other. -/
def txc (s : ByteArray × ByteArray × ByteArray) : Nat → ByteArray
  | 0 => s.1
  | 1 => s.2.1
  | _ => s.2.2
def ptc (T : Nat → ByteArray × ByteArray × ByteArray) (n : Nat) : List Value := (List.range (n * 3)).map fun j => .string (txc (T (j / 3)) (j % 3))
theorem ptc_get {T : Nat → ByteArray × ByteArray × ByteArray} {n j : Nat} (h : j < n * 3) : (ptc T n)[j]? = some (.string (txc (T (j / 3)) (j % 3))) := by
  unfold ptc
  rw [List.getElem?_map, List.getElem?_range h]
  rfl
theorem vecsAt_txc {W : World} {b o n : Nat} {T : Nat → ByteArray × ByteArray × ByteArray} (h : VecsAt W b o n T) (j : Nat) (hj : j < n * 3) : W.cell? ⟨b, o + j, none⟩ = some (.string (txc (T (j / 3)) (j % 3))) := by
  obtain ⟨h0, h1, h2⟩ := h (j / 3) (by omega)
  have e : j = j / 3 * 3 + j % 3 := by omega
  have k : j % 3 = 0 ∨ j % 3 = 1 ∨ j % 3 = 2 := by omega
  rcases k with k | k | k
  · rw [k, show o + j = o + j / 3 * 3 by omega]
    exact h0
  · rw [k, show o + j = o + j / 3 * 3 + 1 by omega]
    exact h1
  · rw [k, show o + j = o + j / 3 * 3 + 2 by omega]
    exact h2
theorem pts_of_owns {W : World} {base n : Nat} {v : Value} {t : TypeId} {T : Nat → ByteArray × ByteArray × ByteArray} (h : W.ownsRow base t 3 v n (ptc T n)) : PtsAt W v n T := by
  obtain ⟨_, h | ⟨g, cap, cur, rfl, _, hg, h1, h2, h3, h4⟩⟩ := h
  · obtain ⟨rfl, rfl⟩ := h
    exact ⟨none, 0, rfl, Nat.le_refl _, Nat.zero_le _, .inl rfl⟩
  · refine ⟨some ⟨g, 0, none⟩, cap, rfl, h1, Nat.le_trans h2 (by decide), .inr ⟨g, 0, rfl, ?_⟩⟩
    have at_ : ∀ j, j < n * 3 → W.cell? ⟨g, 0 + j, none⟩ = some (.string (txc (T (j / 3)) (j % 3))) := by
      intro j hj
      rw [Nat.zero_add, cell_of_row W g j _ _ _ hg, ← ptc_get hj, ← h4, List.getElem?_take_of_lt hj, Array.getElem?_toList]
    intro i hi
    have k0 := at_ (i * 3) (by omega)
    have k1 := at_ (i * 3 + 1) (by omega)
    have k2 := at_ (i * 3 + 2) (by omega)
    rw [show i * 3 / 3 = i by omega, show i * 3 % 3 = 0 by omega] at k0
    rw [show (i * 3 + 1) / 3 = i by omega, show (i * 3 + 1) % 3 = 1 by omega] at k1
    rw [show (i * 3 + 2) / 3 = i by omega, show (i * 3 + 2) % 3 = 2 by omega] at k2
    exact ⟨k0, k1, k2⟩
theorem first_bad (p : Nat → Bool) : ∀ n, (∀ i, i < n → p i = true) ∨ ∃ m, m < n ∧ p m = false ∧ ∀ i, i < m → p i = true
  | 0 => .inl fun i hi => absurd hi (by omega)
  | n + 1 => by
    rcases first_bad p n with h | ⟨m, h1, h2, h3⟩
    · cases e : p n with
      | false => exact .inr ⟨n, by omega, e, h⟩
      | true =>
        refine .inl fun i hi => ?_
        by_cases k : i = n
        · rw [k]; exact e
        · exact h i (by omega)
    · exact .inr ⟨m, by omega, h2, h3⟩

end Go.Proofs.YthkkdepppjiaeaaGreatDoor

/- A slice of vectors opened. -/
namespace Go.Proofs.YthkkdepppjiaeaaGreatDoor
open Go.ChangeShapes Go.WideShapes Go.ChangeAt Go.ChangeMaps Go.RowKit Go.Deep

theorem cells_rat : Tryz.prog.cellsOf 22 = 1 := by kernel_rfl

section
variable {H : Type} {enc : TypeId × Value → H} {w : World} {base : Nat} {sp : Nat → Bool} {held : Bool}
end
end Go.Proofs.YthkkdepppjiaeaaGreatDoor
