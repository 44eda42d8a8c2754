/- A PART OF THE PROOF, JOINED OUT OF 2 TEXTS. -/
import Derived.Test.YthkkdepppjiaeaaGreatDoorRfSolid
import Derived.Test.YthkkdepppjiaeaaGreatDoorQwAttitude
import Derived.Test.YthkkdepppjiaeaaGreatDoorQxMirrors
/- The program's package attitude: Extent. -/
namespace Go.Proofs.YthkkdepppjiaeaaGreatDoor
open Go.RowKit Go.Shelf Go.Sort

attribute [local go_sem] Oper.semAt_some

theorem rowc6 {W : World} {g : Nat} {v0 v1 v2 v3 v4 v5 : Value} {t : TypeId} (h : W.heap[g]? = some (.cells #[v0, v1, v2, v3, v4, v5] t (0, 0))) : W.cell? ⟨g, 0, none⟩ = some v0 ∧ W.cell? ⟨g, 1, none⟩ = some v1 ∧ W.cell? ⟨g, 2, none⟩ = some v2 ∧ W.cell? ⟨g, 3, none⟩ = some v3 ∧ W.cell? ⟨g, 4, none⟩ = some v4 ∧ W.cell? ⟨g, 5, none⟩ = some v5 :=
  ⟨cell_of_row W _ 0 _ _ _ h, cell_of_row W _ 1 _ _ _ h, cell_of_row W _ 2 _ _ _ h, cell_of_row W _ 3 _ _ _ h, cell_of_row W _ 4 _ _ _ h, cell_of_row W _ 5 _ _ _ h⟩
theorem row6f {W : World} {g : Nat} {v0 v1 v2 v3 v4 v5 : Value} {t : TypeId} (h : W.heap[g]? = some (.cells #[v0, v1, v2, v3, v4, v5] t (0, 0))) : W.cell? ⟨g, 0, none⟩ = some v0 ∧ W.cell? ⟨g, 1, none⟩ = some v1 ∧ W.cell? ⟨g, 2, none⟩ = some v2 ∧ W.cell? ⟨g, 3, none⟩ = some v3 ∧ W.cell? ⟨g, 4, none⟩ = some v4 ∧ W.cell? ⟨g, 5, none⟩ = some v5 ∧ W.frozen? ⟨g, 0, none⟩ = false ∧ W.frozen? ⟨g, 1, none⟩ = false ∧ W.frozen? ⟨g, 2, none⟩ = false ∧ W.frozen? ⟨g, 3, none⟩ = false ∧ W.frozen? ⟨g, 4, none⟩ = false ∧ W.frozen? ⟨g, 5, none⟩ = false :=
  ⟨cell_of_row W _ 0 _ _ _ h, cell_of_row W _ 1 _ _ _ h, cell_of_row W _ 2 _ _ _ h, cell_of_row W _ 3 _ _ _ h, cell_of_row W _ 4 _ _ _ h, cell_of_row W _ 5 _ _ _ h, frozen_of_row W _ 0 _ _ h, frozen_of_row W _ 1 _ _ h, frozen_of_row W _ 2 _ _ h, frozen_of_row W _ 3 _ _ h, frozen_of_row W _ 4 _ _ h, frozen_of_row W _ 5 _ _ h⟩
set_option maxHeartbeats 1000000 in
theorem store6 {w : World} {g : Nat} {v0 v1 v2 v3 v4 v5 : Value} {t : TypeId} (h : w.heap[g]? = some (.cells #[v0, v1, v2, v3, v4, v5] t (0, 0))) (u0 u1 u2 u3 u4 u5 : Value) : ((((((w.setCell ⟨g, 0, none⟩ u0).setCell ⟨g, 1, none⟩ u1).setCell ⟨g, 2, none⟩ u2).setCell ⟨g, 3, none⟩ u3).setCell ⟨g, 4, none⟩ u4).setCell ⟨g, 5, none⟩ u5).heap[g]? = some (.cells #[u0, u1, u2, u3, u4, u5] t (0, 0)) := by
  rw [heap_setCell_same _ g 5 _ _ u5 (heap_setCell_same _ g 4 _ _ u4 (heap_setCell_same _ g 3 _ _ u3 (heap_setCell_same _ g 2 _ _ u2 (heap_setCell_same _ g 1 _ _ u1 (heap_setCell_same _ g 0 _ _ u0 h)))))]
  simp only [List.setIfInBounds_toArray, List.set_cons_zero, List.set_cons_succ]
theorem store6_below {w0 w : World} {B g : Nat} (h : Below B w0 w) (hB : B ≤ g) (u0 u1 u2 u3 u4 u5 : Value) : Below B w0 ((((((w.setCell ⟨g, 0, none⟩ u0).setCell ⟨g, 1, none⟩ u1).setCell ⟨g, 2, none⟩ u2).setCell ⟨g, 3, none⟩ u3).setCell ⟨g, 4, none⟩ u4).setCell ⟨g, 5, none⟩ u5) :=
  (((((h.setCell (p := ⟨g, 0, none⟩) hB _).setCell (p := ⟨g, 1, none⟩) hB _).setCell (p := ⟨g, 2, none⟩) hB _).setCell (p := ⟨g, 3, none⟩) hB _).setCell (p := ⟨g, 4, none⟩) hB _).setCell (p := ⟨g, 5, none⟩) hB _
theorem spot_row : RowTy Tryz.prog 74 6 := rowTy_struct Tryz.underlying74 (by kernel_rfl)
theorem owns_below {W W' : World} {base size n : Nat} {t : TypeId} {v : Value} {xs : List Value} (h : W.ownsRow base t size v n xs) (hb : Below W.heap.size W W') : W'.ownsRow base t size v n xs := by
  obtain ⟨h0, h⟩ := h
  refine ⟨h0, ?_⟩
  rcases h with h | ⟨g, cap, cur, h1, h2, h3, h4⟩
  · exact .inl h
  · exact .inr ⟨g, cap, cur, h1, h2, keep hb h3, h4⟩
theorem owns_block {W : World} {base size n : Nat} {t : TypeId} {v : Value} {xs : List Value} (h : W.ownsRow base t size v n xs) : ∀ k, v.ownBlock = some k → base ≤ k := by
  intro k hk
  rcases h.2 with ⟨rfl, _⟩ | ⟨g, cap, cur, rfl, h2, _⟩
  · cases hk
  · simp [Value.ownBlock] at hk
    omega
theorem ptc_three (T : Nat → ByteArray × ByteArray × ByteArray) (k : Nat) : ptc T (k * 3 + 3) = ptc T (k * 3) ++ ptc (fun i => T (k * 3 + i)) 3 := by
  refine List.ext_getElem? fun j => ?_
  have l1 : (ptc T (k * 3)).length = k * 3 * 3 := by unfold ptc; simp
  by_cases h : j < k * 3 * 3
  · rw [List.getElem?_append_left (by omega), ptc_get h, ptc_get (by omega)]
  · rw [List.getElem?_append_right (by omega), l1]
    by_cases h2 : j < (k * 3 + 3) * 3
    · rw [ptc_get h2, ptc_get (by omega)]
      rw [show k * 3 + (j - k * 3 * 3) / 3 = j / 3 by omega, show (j - k * 3 * 3) % 3 = j % 3 by omega]
    · rw [List.getElem?_eq_none (by unfold ptc; simp; omega), List.getElem?_eq_none (by unfold ptc; simp; omega)]


set_option maxRecDepth 100000 in
set_option maxHeartbeats 4000000 in
theorem at_Extent_size (A : Option Addr) (n c : Nat) (h t : ByteArray) (cc : Int) (w : World) (hc1 : (cc != 0) = true)
    (hs : ∀ W, Below w.heap.size w W → Calls Tryz.prog 80 #[.slice A n c] W fun e w' => e = .returned (.int .i64 cc) ∧ Below W.heap.size W w') :
    Calls Tryz.prog 39 #[.slice A n c, .agg #[.string h, .string t]] w fun e w' => e = .returned (.tuple #[.agg #[.string ⟨#[]⟩, .string ⟨#[]⟩, .string ⟨#[]⟩, .string ⟨#[]⟩, .string ⟨#[]⟩, .string ⟨#[]⟩], .int .i64 cc]) ∧ Below w.heap.size w w' := by
  have HS := Lib.hid hs
  clear hs
  go_enter Tryz.func39, Tryz.ntmps39
  go_wp2_with fail
  generalize hW : (World.alloc w _).alloc _ = W
  obtain ⟨hB, hsz, R3, R4⟩ := A2 hW
  have R3 := Lib.hid R3
  have R4 := Lib.hid R4
  clear hW hsz
  refine (HS.out _ hB).mono ?_
  rintro e w1 ⟨rfl, hb⟩
  replace hB := bstep hB hb
  have R3 := Lib.hid (keep hb R3.out)
  have R4 := Lib.hid (keep hb R4.out)
  clear hb
  obtain ⟨q0, q1, q2, q3, q4, q5, q6, q7, q8, q9, q10, q11⟩ := row6f R4.out
  go_wp2_with fail
  exact bodyPost_ret (res_ct rfl spot_row rfl (store6 R4.out _ _ _ _ _ _) rfl) rfl ⟨rfl, store6_below hB (by omega) _ _ _ _ _ _⟩


set_option maxRecDepth 100000 in
set_option maxHeartbeats 4000000 in
theorem at_Extent_bad (A : Option Addr) (n c : Nat) (h t : ByteArray) (v m : Bool) (w : World) (hvm : (v && m) = false)
    (hs : ∀ W, Below w.heap.size w W → Calls Tryz.prog 80 #[.slice A n c] W fun e w' => e = .returned (.int .i64 0) ∧ Below W.heap.size W w')
    (hv : ∀ W, Below w.heap.size w W → Calls Tryz.prog 81 #[.slice A n c] W fun e w' => e = .returned (.bool v) ∧ Below W.heap.size W w')
    (hn : ∀ W, Below w.heap.size w W → Calls Tryz.prog 82 #[.agg #[.string h, .string t]] W fun e w' => e = .returned (.bool m) ∧ Below W.heap.size W w') :
    Calls Tryz.prog 39 #[.slice A n c, .agg #[.string h, .string t]] w fun e w' => e = .returned (.tuple #[.agg #[.string ⟨#[]⟩, .string ⟨#[]⟩, .string ⟨#[]⟩, .string ⟨#[]⟩, .string ⟨#[]⟩, .string ⟨#[]⟩], .int .i64 1]) ∧ Below w.heap.size w w' := by
  have HS := Lib.hid hs
  have HV := Lib.hid hv
  have HN := Lib.hid hn
  clear hs hv hn
  cases v
  · clear hvm
    go_enter Tryz.func39, Tryz.ntmps39
    go_wp2_with fail
    generalize hW : (World.alloc w _).alloc _ = W
    obtain ⟨hB, hsz, R3, R4⟩ := A2 hW
    have R3 := Lib.hid R3
    have R4 := Lib.hid R4
    clear hW hsz
    refine (HS.out _ hB).mono ?_
    rintro e w1 ⟨rfl, hb⟩
    replace hB := bstep hB hb
    have R3 := Lib.hid (keep hb R3.out)
    have R4 := Lib.hid (keep hb R4.out)
    clear hb
    go_wp2_with fail
    refine (HV.out _ hB).mono ?_
    rintro e w2 ⟨rfl, hb⟩
    replace hB := bstep hB hb
    have R3 := Lib.hid (keep hb R3.out)
    have R4 := Lib.hid (keep hb R4.out)
    clear hb
    obtain ⟨q0, q1, q2, q3, q4, q5, q6, q7, q8, q9, q10, q11⟩ := row6f R4.out
    go_wp2_with fail
    exact bodyPost_ret (res_ct rfl spot_row rfl (store6 R4.out _ _ _ _ _ _) rfl) rfl ⟨rfl, store6_below hB (by omega) _ _ _ _ _ _⟩

  · cases m
    · clear hvm
      go_enter Tryz.func39, Tryz.ntmps39
      go_wp2_with fail
      generalize hW : (World.alloc w _).alloc _ = W
      obtain ⟨hB, hsz, R3, R4⟩ := A2 hW
      have R3 := Lib.hid R3
      have R4 := Lib.hid R4
      clear hW hsz
      refine (HS.out _ hB).mono ?_
      rintro e w1 ⟨rfl, hb⟩
      replace hB := bstep hB hb
      have R3 := Lib.hid (keep hb R3.out)
      have R4 := Lib.hid (keep hb R4.out)
      clear hb
      go_wp2_with fail
      refine (HV.out _ hB).mono ?_
      rintro e w2 ⟨rfl, hb⟩
      replace hB := bstep hB hb
      have R3 := Lib.hid (keep hb R3.out)
      have R4 := Lib.hid (keep hb R4.out)
      clear hb
      obtain ⟨c0, c1, f0, f1⟩ := row2 R3.out
      go_wp2_with fail
      clear c0 c1 f0 f1
      refine (HN.out _ hB).mono ?_
      rintro e w3 ⟨rfl, hb⟩
      replace hB := bstep hB hb
      have R3 := Lib.hid (keep hb R3.out)
      have R4 := Lib.hid (keep hb R4.out)
      clear hb
      obtain ⟨q0, q1, q2, q3, q4, q5, q6, q7, q8, q9, q10, q11⟩ := row6f R4.out
      go_wp2_with fail
      exact bodyPost_ret (res_ct rfl spot_row rfl (store6 R4.out _ _ _ _ _ _) rfl) rfl ⟨rfl, store6_below hB (by omega) _ _ _ _ _ _⟩

    · exact absurd hvm (by decide)


set_option maxRecDepth 100000 in
set_option maxHeartbeats 4000000 in
theorem at_Extent_err (A : Option Addr) (n c : Nat) (h t : ByteArray) (cc : Int) (w : World) (hc1 : (cc != 0) = true)
    (hs : ∀ W, Below w.heap.size w W → Calls Tryz.prog 80 #[.slice A n c] W fun e w' => e = .returned (.int .i64 0) ∧ Below W.heap.size W w')
    (hv : ∀ W, Below w.heap.size w W → Calls Tryz.prog 81 #[.slice A n c] W fun e w' => e = .returned (.bool true) ∧ Below W.heap.size W w')
    (hn : ∀ W, Below w.heap.size w W → Calls Tryz.prog 82 #[.agg #[.string h, .string t]] W fun e w' => e = .returned (.bool true) ∧ Below W.heap.size W w')
    (hc : ∀ W, Below w.heap.size w W → Calls Tryz.prog 76 #[.agg #[.string h, .string t]] W fun e w' => e = .returned (.int .i64 cc) ∧ Below W.heap.size W w') :
    Calls Tryz.prog 39 #[.slice A n c, .agg #[.string h, .string t]] w fun e w' => e = .returned (.tuple #[.agg #[.string ⟨#[]⟩, .string ⟨#[]⟩, .string ⟨#[]⟩, .string ⟨#[]⟩, .string ⟨#[]⟩, .string ⟨#[]⟩], .int .i64 cc]) ∧ Below w.heap.size w w' := by
  have HS := Lib.hid hs
  have HV := Lib.hid hv
  have HN := Lib.hid hn
  have HC := Lib.hid hc
  clear hs hv hn hc
  go_enter Tryz.func39, Tryz.ntmps39
  go_wp2_with fail
  generalize hW : (World.alloc w _).alloc _ = W
  obtain ⟨hB, hsz, R3, R4⟩ := A2 hW
  have R3 := Lib.hid R3
  have R4 := Lib.hid R4
  clear hW hsz
  refine (HS.out _ hB).mono ?_
  rintro e w1 ⟨rfl, hb⟩
  replace hB := bstep hB hb
  have R3 := Lib.hid (keep hb R3.out)
  have R4 := Lib.hid (keep hb R4.out)
  clear hb
  go_wp2_with fail
  refine (HV.out _ hB).mono ?_
  rintro e w2 ⟨rfl, hb⟩
  replace hB := bstep hB hb
  have R3 := Lib.hid (keep hb R3.out)
  have R4 := Lib.hid (keep hb R4.out)
  clear hb
  obtain ⟨c0, c1, f0, f1⟩ := row2 R3.out
  go_wp2_with fail
  clear c0 c1 f0 f1
  refine (HN.out _ hB).mono ?_
  rintro e w3 ⟨rfl, hb⟩
  replace hB := bstep hB hb
  have R3 := Lib.hid (keep hb R3.out)
  have R4 := Lib.hid (keep hb R4.out)
  clear hb
  obtain ⟨c0, c1, f0, f1⟩ := row2 R3.out
  go_wp2_with fail
  clear c0 c1 f0 f1
  refine (HC.out _ hB).mono ?_
  rintro e w4 ⟨rfl, hb⟩
  replace hB := bstep hB hb
  have R3 := Lib.hid (keep hb R3.out)
  have R4 := Lib.hid (keep hb R4.out)
  clear hb
  obtain ⟨q0, q1, q2, q3, q4, q5, q6, q7, q8, q9, q10, q11⟩ := row6f R4.out
  go_wp2_with fail
  exact bodyPost_ret (res_ct rfl spot_row rfl (store6 R4.out _ _ _ _ _ _) rfl) rfl ⟨rfl, store6_below hB (by omega) _ _ _ _ _ _⟩


set_option maxRecDepth 100000 in
set_option maxHeartbeats 16000000 in
theorem at_Extent_ok (b o n c : Nat) (T : Nat → ByteArray × ByteArray × ByteArray) (h t z0 z1 z2 z3 z4 z5 z6 z7 z8 l0 u0 l1 u1 l2 u2 : ByteArray) (c0 c1 c2 : Int) (w : World) (hE : Env w) (hn : n ≤ 512) (hA : VecsAt w b o (n * 3) T)
    (hs : ∀ W, Below w.heap.size w W → Calls Tryz.prog 80 #[.slice (some ⟨b, o, none⟩) n c] W fun e w' => e = .returned (.int .i64 0) ∧ Below W.heap.size W w')
    (hv : ∀ W, Below w.heap.size w W → Calls Tryz.prog 81 #[.slice (some ⟨b, o, none⟩) n c] W fun e w' => e = .returned (.bool true) ∧ Below W.heap.size W w')
    (hm : ∀ W, Below w.heap.size w W → Calls Tryz.prog 82 #[.agg #[.string h, .string t]] W fun e w' => e = .returned (.bool true) ∧ Below W.heap.size W w')
    (hc : ∀ W, Below w.heap.size w W → Calls Tryz.prog 76 #[.agg #[.string h, .string t]] W fun e w' => e = .returned (.int .i64 0) ∧ Below W.heap.size W w')
    (hx : ∀ w, Env w → Calls Tryz.prog 83 #[.agg #[.string h, .string t]] w fun e w' => e = .returned (.agg #[.string z0, .string z1, .string z2, .string z3, .string z4, .string z5, .string z6, .string z7, .string z8]) ∧ Below w.heap.size w w')
    (r0 : ∀ W v, Env W → PtsAt W v (n * 3) T → Calls Tryz.prog 84 #[v, .agg #[.string z0, .string z1, .string z2]] W fun e w' => e = .returned (.tuple #[.agg #[.string l0, .string u0], .int .i64 c0]) ∧ Below W.heap.size W w')
    (r1 : ∀ W v, Env W → PtsAt W v (n * 3) T → Calls Tryz.prog 84 #[v, .agg #[.string z3, .string z4, .string z5]] W fun e w' => e = .returned (.tuple #[.agg #[.string l1, .string u1], .int .i64 c1]) ∧ Below W.heap.size W w')
    (r2 : ∀ W v, Env W → PtsAt W v (n * 3) T → Calls Tryz.prog 84 #[v, .agg #[.string z6, .string z7, .string z8]] W fun e w' => e = .returned (.tuple #[.agg #[.string l2, .string u2], .int .i64 c2]) ∧ Below W.heap.size W w') :
    Calls Tryz.prog 39 #[.slice (some ⟨b, o, none⟩) n c, .agg #[.string h, .string t]] w fun e w' => e = .returned (.tuple #[.agg #[.string l0, .string u0, .string l1, .string u1, .string l2, .string u2], .int .i64 0]) ∧ Below w.heap.size w w' := by
  have HS := Lib.hid hs
  have HV := Lib.hid hv
  have HN := Lib.hid hm
  have HC := Lib.hid hc
  have HX := Lib.hid hx
  have R0 := Lib.hid r0
  have R1 := Lib.hid r1
  have R2 := Lib.hid r2
  clear hs hv hm hc hx r0 r1 r2
  have HA := Lib.hid hA
  have HE := Lib.hid hE
  clear hA hE
  have i0 : ∀ w, (Instr.index 78 (.agg #[.string z0, .string z1, .string z2, .string z3, .string z4, .string z5, .string z6, .string z7, .string z8]) (.int .i64 0)).run Tryz.prog w = .ok (.agg #[.string z0, .string z1, .string z2]) w := fun _ => by kernel_rfl
  have i1 : ∀ w, (Instr.index 78 (.agg #[.string z0, .string z1, .string z2, .string z3, .string z4, .string z5, .string z6, .string z7, .string z8]) (.int .i64 1)).run Tryz.prog w = .ok (.agg #[.string z3, .string z4, .string z5]) w := fun _ => by kernel_rfl
  have i2 : ∀ w, (Instr.index 78 (.agg #[.string z0, .string z1, .string z2, .string z3, .string z4, .string z5, .string z6, .string z7, .string z8]) (.int .i64 2)).run Tryz.prog w = .ok (.agg #[.string z6, .string z7, .string z8]) w := fun _ => by kernel_rfl
  go_enter Tryz.func39, Tryz.ntmps39
  go_wp2_with fail
  generalize hW : (World.alloc w _).alloc _ = W
  obtain ⟨hB, hsz, R3, R4⟩ := A2 hW
  have R3 := Lib.hid R3
  have R4 := Lib.hid R4
  clear hW hsz
  refine (HS.out _ hB).mono ?_
  rintro e w1 ⟨rfl, hb⟩
  replace hB := bstep hB hb
  have R3 := Lib.hid (keep hb R3.out)
  have R4 := Lib.hid (keep hb R4.out)
  clear hb
  go_wp2_with fail
  refine (HV.out _ hB).mono ?_
  rintro e w2 ⟨rfl, hb⟩
  replace hB := bstep hB hb
  have R3 := Lib.hid (keep hb R3.out)
  have R4 := Lib.hid (keep hb R4.out)
  clear hb
  obtain ⟨c0, c1, f0, f1⟩ := row2 R3.out
  go_wp2_with fail
  clear c0 c1 f0 f1
  refine (HN.out _ hB).mono ?_
  rintro e w3 ⟨rfl, hb⟩
  replace hB := bstep hB hb
  have R3 := Lib.hid (keep hb R3.out)
  have R4 := Lib.hid (keep hb R4.out)
  clear hb
  obtain ⟨c0, c1, f0, f1⟩ := row2 R3.out
  go_wp2_with fail
  clear c0 c1 f0 f1
  refine (HC.out _ hB).mono ?_
  rintro e w4 ⟨rfl, hb⟩
  replace hB := bstep hB hb
  have R3 := Lib.hid (keep hb R3.out)
  have R4 := Lib.hid (keep hb R4.out)
  clear hb
  have I0 := Lib.hid i0
  have I1 := Lib.hid i1
  have I2 := Lib.hid i2
  clear i0 i1 i2
  go_wp2_with fail
  go_loopw [37, 8] (fun x y wr => ∃ (k : Nat) (yv : Value), k ≤ n ∧ x = .int .i64 k ∧ yv = y ∧ Hid (Below w4.heap.size w4 wr) ∧ Hid (wr.ownsRow w4.heap.size 24 3 yv (k * 3) (ptc T (k * 3)))) (fun x _ _ => n - (intOf x).toNat)
  case atStart => exact ⟨0, _, Nat.zero_le _, rfl, rfl, Lib.hid (Below.refl _ _), Lib.hid ⟨rfl, .inl ⟨rfl, rfl⟩⟩⟩
  case round =>
    obtain ⟨k, yv, hk, rfl, rfl, HB4, HO⟩ := hrel
    by_cases hlt : k < n
    · obtain ⟨v0, v1, v2⟩ := (HA.out.below (bstep hB HB4.out)) (k * 3 + 0) (by omega)
      obtain ⟨v3, v4, v5⟩ := (HA.out.below (bstep hB HB4.out)) (k * 3 + 1) (by omega)
      obtain ⟨v6, v7, v8⟩ := (HA.out.below (bstep hB HB4.out)) (k * 3 + 2) (by omega)
      rw [show o + (k * 3 + 0) * 3 = o + k * 9 by omega] at v0 v1 v2
      rw [show o + (k * 3 + 1) * 3 = o + k * 9 + 3 by omega] at v3 v4 v5
      rw [show o + (k * 3 + 2) * 3 = o + k * 9 + 6 by omega] at v6 v7 v8
      go_upto_region 13 with fail
      clear v0 v1 v2 v3 v4 v5 v6 v7 v8
      have HB4' := HB4.out
      generalize hY : World.alloc wr _ = Y
      obtain ⟨hb, hsz, RT⟩ := A1 hY
      replace HB4' := bstep HB4' hb
      have hbt := HB4.out.size
      have HO' := owns_below HO.out hb
      have hv := row9s RT
      have hbl := owns_block HO.out
      clear hY HO HB4
      have RT := Lib.hid RT
      go_wp2_with (at_builtin; refine wpList_append_own _ rfl _ _ 133 rfl w4.heap.size 24 vecI vecZ 3 48 Tryz.underlying133 (by kernel_rfl) (by kernel_rfl) (by kernel_rfl) (by kernel_rfl) rfl (by decide) _ _ _ rfl HO' ⟨wr.heap.size, 0, none⟩ 3 3 (ptc (fun i => T (k * 3 + i)) 3) rfl ?qc1 ?qc2 ?qc3 ?qc4 ?qc5 ?qc6 ?_)
      case qc1 => unfold ptc; simp
      case qc2 =>
        intro j u hu
        have hj : j < 3 * 3 := by
          have := (List.getElem?_eq_some_iff.1 hu).1
          unfold ptc at this
          simpa using this
        rw [ptc_get hj] at hu
        have hv' : VecsAt Y wr.heap.size 0 3 (fun i => T (k * 3 + i)) := by
          intro i hi
          match i, hi with
          | 0, _ => exact hv 0 (by decide)
          | 1, _ => exact hv 1 (by decide)
          | 2, _ => exact hv 2 (by decide)
        rw [Addr.add_mid, vecsAt_txc hv' j hj]
        exact hu
      case qc3 =>
        intro u hu
        unfold ptc at hu
        obtain ⟨j, _, rfl⟩ := List.mem_map.1 hu
        rfl
      case qc4 => have : maxLen = 9223372036854775807 := rfl; omega
      case qc5 => omega
      case qc6 => omega
      intro v' w6 hown hgrow hnil
      rw [← ptc_three] at hown
      have HB6 := HB4'.grown hgrow (by omega) hbl
      clear hnil hgrow HO' hv hbl HB4'
      go_wp2_with fail
      go_roundw
      case rel => exact ⟨k + 1, _, hlt, by go_num, rfl, Lib.hid HB6, Lib.hid (by rw [show (k + 1) * 3 = k * 3 + 3 by omega]; exact hown)⟩
      case measure => simp [intOf]; omega
    · have hkn : k = n := by omega
      rw [hkn] at HO
      have HP := Lib.hid (pts_of_owns HO.out)
      replace hB := bstep hB HB4.out
      have R3 := Lib.hid (keep HB4.out R3.out)
      have R4 := Lib.hid (keep HB4.out R4.out)
      clear HO HB4 hlt hk
      have hkl : ¬ k < n := by omega
      go_upto_region 16 with fail
      clear hkl hkn
      have n4 := Lib.hid (show w.heap.size + 1 < wr.heap.size from lt_of_row R4.out)
      generalize wr = wA at *
      generalize hY : World.alloc wA _ = Y
      obtain ⟨hb, hsz, R11⟩ := A1 hY
      have HBA := Lib.hid hb
      have R11 := Lib.hid R11
      clear hY hsz hb
      obtain ⟨e0, e1, f0, f1⟩ := row2 (keep HBA.out R3.out)
      go_wp2_with fail
      clear e0 e1 f0 f1
      refine (HX.out _ (HE.out.below (bstep hB HBA.out))).mono ?_
      rintro e w7 ⟨rfl, hb⟩
      have HBA := Lib.hid (bstep HBA.out hb)
      have R11 := Lib.hid (keep hb R11.out)
      clear hb R3
      go_wp2_with fail
      go_loopw [47] (fun x wr => ∃ k : Int, x = .int .i64 k ∧ Hid (Below wA.heap.size wA wr) ∧ ((k = 0 ∧ Hid (wr.heap[wA.heap.size]? = some (.cells #[.string ⟨#[]⟩, .string ⟨#[]⟩, .string ⟨#[]⟩, .string ⟨#[]⟩, .string ⟨#[]⟩, .string ⟨#[]⟩] 134 (0, 0)))) ∨ (k = 1 ∧ Hid (wr.heap[wA.heap.size]? = some (.cells #[.string l0, .string u0, .string ⟨#[]⟩, .string ⟨#[]⟩, .string ⟨#[]⟩, .string ⟨#[]⟩] 134 (0, 0)))) ∨ (k = 2 ∧ Hid (wr.heap[wA.heap.size]? = some (.cells #[.string l0, .string u0, .string l1, .string u1, .string ⟨#[]⟩, .string ⟨#[]⟩] 134 (0, 0)))) ∨ (k = 3 ∧ Hid (wr.heap[wA.heap.size]? = some (.cells #[.string l0, .string u0, .string l1, .string u1, .string l2, .string u2] 134 (0, 0)))))) (fun x _ => (3 - intOf x).toNat)
      case atStart => exact ⟨0, rfl, HBA, Or.inl ⟨rfl, R11⟩⟩
      case round =>
        clear R11 HBA
        obtain ⟨k, rfl, HBA, hk⟩ := hrel
        rcases hk with ⟨rfl, R11⟩ | ⟨rfl, R11⟩ | ⟨rfl, R11⟩ | ⟨rfl, R11⟩
        · have j0 := I0.out
          have lB := lp2 R11.out
          go_upto_region 19 with fail
          clear j0 lB
          have hB2 := HBA.out
          generalize hY : World.alloc wr _ = Y2
          obtain ⟨hb, hsz, RX⟩ := A1 hY
          replace hB2 := bstep hB2 hb
          have R11 := Lib.hid (keep hb R11.out)
          have RX := Lib.hid RX
          clear hY hsz hb HBA
          obtain ⟨x0, x1, x2⟩ := rowc3 RX.out
          go_wp2_with fail
          clear x0 x1 x2
          refine (R0.out _ _ (HE.out.below (bstep hB hB2)) (HP.out.below hB2)).mono ?_
          rintro e w8 ⟨rfl, hb⟩
          replace hB2 := bstep hB2 hb
          have R11 := Lib.hid (keep hb R11.out)
          clear hb RX
          obtain ⟨q0, q1, q2, q3, q4, q5, q6, q7, q8, q9, q10, q11⟩ := row6f R11.out
          go_wp2_with fail
          clear q0 q1 q2 q3 q4 q5 q6 q7 q8 q9 q10 q11
          go_roundw
          case rel => exact ⟨1, by go_num, Lib.hid ((hB2.setCell (p := ⟨wA.heap.size, 0, none⟩) (Nat.le_refl _) _).setCell (p := ⟨wA.heap.size, 1, none⟩) (Nat.le_refl _) _), Or.inr (Or.inl ⟨rfl, Lib.hid (by
            have k := heap_setCell_same _ wA.heap.size 1 _ _ (.string u0) (heap_setCell_same _ wA.heap.size 0 _ _ (.string l0) R11.out)
            simpa only [List.setIfInBounds_toArray, List.set_cons_zero, List.set_cons_succ] using k)⟩)⟩
          case measure => decide
        · have j1 := I1.out
          have lB := lp2 R11.out
          go_upto_region 19 with fail
          clear j1 lB
          have hB2 := HBA.out
          generalize hY : World.alloc wr _ = Y2
          obtain ⟨hb, hsz, RX⟩ := A1 hY
          replace hB2 := bstep hB2 hb
          have R11 := Lib.hid (keep hb R11.out)
          have RX := Lib.hid RX
          clear hY hsz hb HBA
          obtain ⟨x0, x1, x2⟩ := rowc3 RX.out
          go_wp2_with fail
          clear x0 x1 x2
          refine (R1.out _ _ (HE.out.below (bstep hB hB2)) (HP.out.below hB2)).mono ?_
          rintro e w8 ⟨rfl, hb⟩
          replace hB2 := bstep hB2 hb
          have R11 := Lib.hid (keep hb R11.out)
          clear hb RX
          obtain ⟨q0, q1, q2, q3, q4, q5, q6, q7, q8, q9, q10, q11⟩ := row6f R11.out
          go_wp2_with fail
          clear q0 q1 q2 q3 q4 q5 q6 q7 q8 q9 q10 q11
          go_roundw
          case rel => exact ⟨2, by go_num, Lib.hid ((hB2.setCell (p := ⟨wA.heap.size, 2, none⟩) (Nat.le_refl _) _).setCell (p := ⟨wA.heap.size, 3, none⟩) (Nat.le_refl _) _), Or.inr (Or.inr (Or.inl ⟨rfl, Lib.hid (by
            have k := heap_setCell_same _ wA.heap.size 3 _ _ (.string u1) (heap_setCell_same _ wA.heap.size 2 _ _ (.string l1) R11.out)
            simpa only [List.setIfInBounds_toArray, List.set_cons_zero, List.set_cons_succ] using k)⟩))⟩
          case measure => decide
        · have j2 := I2.out
          have lB := lp2 R11.out
          go_upto_region 19 with fail
          clear j2 lB
          have hB2 := HBA.out
          generalize hY : World.alloc wr _ = Y2
          obtain ⟨hb, hsz, RX⟩ := A1 hY
          replace hB2 := bstep hB2 hb
          have R11 := Lib.hid (keep hb R11.out)
          have RX := Lib.hid RX
          clear hY hsz hb HBA
          obtain ⟨x0, x1, x2⟩ := rowc3 RX.out
          go_wp2_with fail
          clear x0 x1 x2
          refine (R2.out _ _ (HE.out.below (bstep hB hB2)) (HP.out.below hB2)).mono ?_
          rintro e w8 ⟨rfl, hb⟩
          replace hB2 := bstep hB2 hb
          have R11 := Lib.hid (keep hb R11.out)
          clear hb RX
          obtain ⟨q0, q1, q2, q3, q4, q5, q6, q7, q8, q9, q10, q11⟩ := row6f R11.out
          go_wp2_with fail
          clear q0 q1 q2 q3 q4 q5 q6 q7 q8 q9 q10 q11
          go_roundw
          case rel => exact ⟨3, by go_num, Lib.hid ((hB2.setCell (p := ⟨wA.heap.size, 4, none⟩) (Nat.le_refl _) _).setCell (p := ⟨wA.heap.size, 5, none⟩) (Nat.le_refl _) _), Or.inr (Or.inr (Or.inr ⟨rfl, Lib.hid (by
            have k := heap_setCell_same _ wA.heap.size 5 _ _ (.string u2) (heap_setCell_same _ wA.heap.size 4 _ _ (.string l2) R11.out)
            simpa only [List.setIfInBounds_toArray, List.set_cons_zero, List.set_cons_succ] using k)⟩))⟩
          case measure => decide
        · have R4 := Lib.hid (keep HBA.out R4.out)
          have hB := bstep hB HBA.out
          obtain ⟨q0, q1, q2, q3, q4, q5, q6, q7, q8, q9, q10, q11⟩ := row6f R4.out
          obtain ⟨m0, m1, m2, m3, m4, m5⟩ := rowc6 R11.out
          go_wp2_with fail
          exact bodyPost_ret (res_ct rfl spot_row rfl (store6 R4.out _ _ _ _ _ _) rfl) rfl ⟨rfl, store6_below hB (by omega) _ _ _ _ _ _⟩

end Go.Proofs.YthkkdepppjiaeaaGreatDoor

/- Solids: copied; ShortS; the program's Extent at whatever texts. -/
namespace Go.Proofs.YthkkdepppjiaeaaGreatDoor
open Go.RowKit Go.Shelf Go.Sort

attribute [local go_sem] Oper.semAt_some

noncomputable def triI : TypeInfo := (Tryz.prog.info? 79).get (by kernel_rfl)
def triZ : Value := .agg #[.string ⟨#[]⟩, .string ⟨#[]⟩, .string ⟨#[]⟩, .string ⟨#[]⟩, .string ⟨#[]⟩, .string ⟨#[]⟩, .string ⟨#[]⟩, .string ⟨#[]⟩, .string ⟨#[]⟩]

set_option maxHeartbeats 2000000 in
set_option maxRecDepth 100000 in
theorem sl_CloneS (a : Addr) (n c : Nat) (news : List Value) (w : World) (hl : news.length = n * 9) (hn : n ≤ 100000)
    (hc : ∀ j u, news[j]? = some u → w.cell? (a.add j) = some u) (h1 : ∀ u ∈ news, u.oneCell' = true) :
    Calls Tryz.prog 40 #[.slice (some a) n c] w fun e w' => ∃ v', e = .returned v' ∧ w'.ownsRow w.heap.size 79 9 v' n news ∧ v' ≠ .slice none 0 0 ∧ Below w.heap.size w w' := by
  have A := Lib.hid hc
  clear hc
  have q22 : ∀ (w : World) (a : Option Addr) (n c n' c' : Nat), (binOp .eql 71 (.slice a n c) (.slice none n' c')).run Tryz.prog w = .ok (.bool a.isNone) w := fun w a n c n' c' => Lib.run_eql_slice_nil w _ _ a n c n' c' Tryz.underlying71
  have u22 : ∀ w, Sem.run Tryz.prog (underlying 71) w = .ok (TypeDesc.slice 79) w := run_underlying Tryz.underlying71
  go_enter Tryz.func40, Tryz.ntmps40
  go_wp2_with (at_builtin; refine wpList_append_own _ rfl _ _ 71 rfl w.heap.size 79 triI triZ 9 144 Tryz.underlying71 (by kernel_rfl) (by kernel_rfl) (by kernel_rfl) (by kernel_rfl) rfl (by decide) _ _ _ rfl (World.ownsRow_made w #[] 0 (Nat.le_refl _) (Nat.zero_le _) (by simp)) a n c news rfl ?qc1 ?qc2 ?qc3 ?qc4 ?qc5 ?qc6 ?_)
  case qc1 => exact hl
  case qc2 =>
    intro j u hj
    exact Lib.cell?_alloc_some _ (A.out j u hj)
  case qc3 => exact h1
  case qc4 => rw [Nat.zero_add]; exact Nat.le_trans hn (by decide)
  case qc5 => rw [Nat.zero_add]; omega
  case qc6 => simp
  intro v' w1 hown hgrow hnil
  go_wp2
  go_ret
  refine ⟨v', rfl, by simpa using hown, ?_, ?_⟩
  · exact hnil
  · exact ((Below.refl _ w).alloc (Nat.le_refl _) _).grown hgrow (by simp) (by intro k hk; simp [Value.ownBlock] at hk; omega)
set_option maxRecDepth 100000 in
set_option maxHeartbeats 1000000 in
theorem sl_CloneS_nil (n c : Nat) (w : World) :
    Calls Tryz.prog 40 #[.slice none n c] w fun e w' => e = .returned (.slice none 0 0) ∧ Below w.heap.size w w' := by
  have q22 : ∀ (w : World) (a : Option Addr) (n c n' c' : Nat), (binOp .eql 71 (.slice a n c) (.slice none n' c')).run Tryz.prog w = .ok (.bool a.isNone) w := fun w a n c n' c' => Lib.run_eql_slice_nil w _ _ a n c n' c' Tryz.underlying71
  have u22 : ∀ w, Sem.run Tryz.prog (underlying 71) w = .ok (TypeDesc.slice 79) w := run_underlying Tryz.underlying71
  go_enter Tryz.func40, Tryz.ntmps40
  go_wp2
  go_ret
  exact ⟨rfl, Below.refl _ _⟩

/-- The triangles that a slice holds: n of them, 3 n points. -/
def SolAt (W : World) (v : Value) (n : Nat) (T : Nat → ByteArray × ByteArray × ByteArray) : Prop := ∃ (A : Option Addr) (c : Nat), v = .slice A n c ∧ n ≤ c ∧ c ≤ 9223372036854775807 ∧ (n = 0 ∨ ∃ b o, A = some ⟨b, o, none⟩ ∧ VecsAt W b o (n * 3) T)
theorem SolAt.below {W W' : World} {v : Value} {n : Nat} {T : Nat → ByteArray × ByteArray × ByteArray} (h : SolAt W v n T) (hb : Below W.heap.size W W') : SolAt W' v n T := by
  obtain ⟨A, c, e1, e2, e3, h⟩ := h
  refine ⟨A, c, e1, e2, e3, ?_⟩
  rcases h with h | ⟨b, o, e4, h⟩
  · exact .inl h
  · exact .inr ⟨b, o, e4, h.below hb⟩
theorem sol_of_owns {W : World} {base n : Nat} {v : Value} {t : TypeId} {T : Nat → ByteArray × ByteArray × ByteArray} (h : W.ownsRow base t 9 v n (ptc T (n * 3))) : SolAt W v n T := by
  obtain ⟨_, h | ⟨g, cap, cur, rfl, _, hg, h1, h2, h3, h4⟩⟩ := h
  · obtain ⟨rfl, rfl⟩ := h
    exact ⟨none, 0, rfl, Nat.le_refl _, Nat.zero_le _, .inl rfl⟩
  · refine ⟨some ⟨g, 0, none⟩, cap, rfl, h1, Nat.le_trans h2 (by decide), .inr ⟨g, 0, rfl, ?_⟩⟩
    have at_ : ∀ j, j < n * 3 * 3 → W.cell? ⟨g, 0 + j, none⟩ = some (.string (txc (T (j / 3)) (j % 3))) := by
      intro j hj
      rw [Nat.zero_add, cell_of_row W g j _ _ _ hg, ← ptc_get hj, ← h4, List.getElem?_take_of_lt (by omega), Array.getElem?_toList]
    intro i hi
    have k0 := at_ (i * 3) (by omega)
    have k1 := at_ (i * 3 + 1) (by omega)
    have k2 := at_ (i * 3 + 2) (by omega)
    rw [show i * 3 / 3 = i by omega, show i * 3 % 3 = 0 by omega] at k0
    rw [show (i * 3 + 1) / 3 = i by omega, show (i * 3 + 1) % 3 = 1 by omega] at k1
    rw [show (i * 3 + 2) / 3 = i by omega, show (i * 3 + 2) % 3 = 2 by omega] at k2
    exact ⟨k0, k1, k2⟩
theorem la_cloneS (A : Option Addr) (n c : Nat) (T : Nat → ByteArray × ByteArray × ByteArray) (W : World) (hn : n ≤ 100000) (hA : A = none → n = 0) (hl : n = 0 ∨ ∃ b o, A = some ⟨b, o, none⟩ ∧ VecsAt W b o (n * 3) T) :
    Calls Tryz.prog 40 #[.slice A n c] W fun e w' => ∃ v', e = .returned v' ∧ SolAt w' v' n T ∧ Below W.heap.size W w' := by
  cases A with
  | none =>
    obtain rfl := hA rfl
    exact (sl_CloneS_nil 0 c W).mono fun e w' ⟨e1, e2⟩ => ⟨_, e1, ⟨none, 0, rfl, Nat.le_refl _, Nat.zero_le _, .inl rfl⟩, e2⟩
  | some a =>
    refine (sl_CloneS a n c (ptc T (n * 3)) W (by unfold ptc; simp; omega) hn ?_ ?_).mono fun e w' ⟨v', e1, e2, _, e3⟩ => ⟨v', e1, sol_of_owns e2, e3⟩
    · intro j u hu
      have hj : j < n * 3 * 3 := by
        have := (List.getElem?_eq_some_iff.1 hu).1
        unfold ptc at this
        simpa using this
      rw [ptc_get hj] at hu
      rcases hl with rfl | ⟨b, o, e, hv⟩
      · omega
      · injection e with e
        rw [e, Addr.add_mid, vecsAt_txc hv j hj]
        exact hu
    · intro u hu
      unfold ptc at hu
      obtain ⟨j, _, rfl⟩ := List.mem_map.1 hu
      rfl
/-- Are the three texts of at most 40 bytes? -/
def sh40 (s : ByteArray × ByteArray × ByteArray) : Bool := decide (s.1.size ≤ 40) && (decide (s.2.1.size ≤ 40) && decide (s.2.2.size ≤ 40))
theorem sh40_iff {s : ByteArray × ByteArray × ByteArray} : sh40 s = true ↔ s.1.size ≤ 40 ∧ s.2.1.size ≤ 40 ∧ s.2.2.size ≤ 40 := by
  unfold sh40
  rw [Bool.and_eq_true, Bool.and_eq_true, decide_eq_true_iff, decide_eq_true_iff, decide_eq_true_iff]


set_option maxRecDepth 100000 in
set_option maxHeartbeats 4000000 in
theorem r16_ShortS_513 (A : Option Addr) (n c : Nat) (r : Bool) (w : World) (hn : n = 513) (hr : r = true) :
    Calls Tryz.prog 38 #[.slice A n c] w fun e w' => e = .returned (.bool r) ∧ Below w.heap.size w w' := by
  subst hn hr
  go_enter Tryz.func38, Tryz.ntmps38
  go_wp2_with fail
  go_ret
  exact ⟨rfl, Below.refl _ _⟩


set_option maxRecDepth 100000 in
set_option maxHeartbeats 4000000 in
theorem r16_ShortS_0 (A : Option Addr) (n c : Nat) (r : Bool) (w : World) (hn : n = 0) (hr : r = true) :
    Calls Tryz.prog 38 #[.slice A n c] w fun e w' => e = .returned (.bool r) ∧ Below w.heap.size w w' := by
  subst hn hr
  go_enter Tryz.func38, Tryz.ntmps38
  go_wp2_with fail
  go_loopw [10] (fun x wr => x = .int .i64 0 ∧ Below w.heap.size w wr) (fun x _ => 1 - (intOf x).toNat)
  case atStart => exact ⟨rfl, Below.refl _ _⟩
  case round =>
    obtain ⟨rfl, hB⟩ := hrel
    go_wp2_with fail
    go_ret
    exact ⟨rfl, hB⟩


set_option maxRecDepth 100000 in
set_option maxHeartbeats 4000000 in
theorem r16_ShortS_run (b o n c : Nat) (T : Nat → ByteArray × ByteArray × ByteArray) (r : Bool) (w : World) (hn : n ≤ 9223372036854775807) (hn5 : n ≠ 513) (hA : VecsAt w b o (n * 3) T) (hM : ∀ i, i < n * 3 → Mx (T i))
    (hr0 : (∀ i, i < n * 3 → sh40 (T i) = true) → r = decide (n ≤ 24)) (hr1 : (∃ i, i < n * 3 ∧ sh40 (T i) = false) → r = false) :
    Calls Tryz.prog 38 #[.slice (some ⟨b, o, none⟩) n c] w fun e w' => e = .returned (.bool r) ∧ Below w.heap.size w w' := by
  have HA := Lib.hid hA
  have HM := Lib.hid hM
  have HR0 := Lib.hid hr0
  have HR1 := Lib.hid hr1
  clear hA hM hr0 hr1
  have h5 : ((n : Int) == 513) = false := by rw [beq_eq_false_iff_ne]; omega
  go_enter Tryz.func38, Tryz.ntmps38
  go_wp2_with fail
  clear h5
  go_loopw [10] (fun x wr => ∃ k : Nat, k ≤ n ∧ x = .int .i64 k ∧ Below w.heap.size w wr ∧ Hid (∀ i, i < k * 3 → sh40 (T i) = true)) (fun x _ => n - (intOf x).toNat)
  case atStart => exact ⟨0, Nat.zero_le _, rfl, Below.refl _ _, Lib.hid (fun i hi => absurd hi (by omega))⟩
  case round =>
    obtain ⟨k, hk, rfl, hB, HI⟩ := hrel
    by_cases hlt : k < n
    · obtain ⟨v0, v1, v2⟩ := (HA.out.below hB) (k * 3 + 0) (by omega)
      obtain ⟨v3, v4, v5⟩ := (HA.out.below hB) (k * 3 + 1) (by omega)
      obtain ⟨v6, v7, v8⟩ := (HA.out.below hB) (k * 3 + 2) (by omega)
      rw [show o + (k * 3 + 0) * 3 = o + k * 9 by omega] at v0 v1 v2
      rw [show o + (k * 3 + 1) * 3 = o + k * 9 + 3 by omega] at v3 v4 v5
      rw [show o + (k * 3 + 2) * 3 = o + k * 9 + 6 by omega] at v6 v7 v8
      have S0 := Lib.hid (fun W => r16_ShortV _ _ _ W (HM.out (k * 3 + 0) (by omega)).1 (HM.out (k * 3 + 0) (by omega)).2.1 (HM.out (k * 3 + 0) (by omega)).2.2)
      have S1 := Lib.hid (fun W => r16_ShortV _ _ _ W (HM.out (k * 3 + 1) (by omega)).1 (HM.out (k * 3 + 1) (by omega)).2.1 (HM.out (k * 3 + 1) (by omega)).2.2)
      have S2 := Lib.hid (fun W => r16_ShortV _ _ _ W (HM.out (k * 3 + 2) (by omega)).1 (HM.out (k * 3 + 2) (by omega)).2.1 (HM.out (k * 3 + 2) (by omega)).2.2)
      have B0 := Lib.hid (fun (h : sh40 (T (k * 3 + 0)) = false) => HR1.out ⟨_, by omega, h⟩)
      have B1 := Lib.hid (fun (h : sh40 (T (k * 3 + 1)) = false) => HR1.out ⟨_, by omega, h⟩)
      have B2 := Lib.hid (fun (h : sh40 (T (k * 3 + 2)) = false) => HR1.out ⟨_, by omega, h⟩)
      have HI2 := Lib.hid (fun (h0 : sh40 (T (k * 3 + 0)) = true) (h1 : sh40 (T (k * 3 + 1)) = true) (h2 : sh40 (T (k * 3 + 2)) = true) (i : Nat) (hi : i < (k + 1) * 3) => (show sh40 (T i) = true by
        by_cases e : i < k * 3
        · exact HI.out i e
        · have e : i = k * 3 + 0 ∨ i = k * 3 + 1 ∨ i = k * 3 + 2 := by omega
          rcases e with rfl | rfl | rfl <;> assumption))
      clear HI
      unfold sh40 at B0 B1 B2 HI2
      generalize T (k * 3 + 0) = t0 at *
      generalize T (k * 3 + 1) = t1 at *
      generalize T (k * 3 + 2) = t2 at *
      generalize (decide (t0.1.size ≤ 40) && (decide (t0.2.1.size ≤ 40) && decide (t0.2.2.size ≤ 40))) = b0 at *
      generalize (decide (t1.1.size ≤ 40) && (decide (t1.2.1.size ≤ 40) && decide (t1.2.2.size ≤ 40))) = b1 at *
      generalize (decide (t2.1.size ≤ 40) && (decide (t2.2.1.size ≤ 40) && decide (t2.2.2.size ≤ 40))) = b2 at *
      obtain ⟨a0, a1, a2⟩ := t0
      obtain ⟨a3, a4, a5⟩ := t1
      obtain ⟨a6, a7, a8⟩ := t2
      simp only at v0 v1 v2 v3 v4 v5 v6 v7 v8 S0 S1 S2
      go_upto_region 6 with fail
      clear v0 v1 v2 v3 v4 v5 v6 v7 v8
      generalize hW : World.alloc _ _ = Y
      obtain ⟨hb, hsz, RT⟩ := A1 hW
      replace hB := bstep hB hb
      clear hb
      have RT := Lib.hid RT
      clear hW hsz
      obtain ⟨c0, c1, c2, c3, c4, c5, c6, c7, c8⟩ := rowc9 RT.out
      cases b0
      · obtain rfl := B0.out rfl
        go_wp2_with fail
        clear c0 c1 c2 c3 c4 c5 c6 c7 c8
        refine (S0.out _).mono ?_
        rintro e w1 ⟨rfl, hb⟩
        replace hB := bstep hB hb
        clear hb
        go_wp2_with fail
        go_ret
        exact ⟨rfl, hB⟩
      · go_wp2_with fail
        clear c0 c1 c2 c3 c4 c5 c6 c7 c8
        refine (S0.out _).mono ?_
        rintro e w1 ⟨rfl, hb⟩
        replace hB := bstep hB hb
        have RT := Lib.hid (keep hb RT.out)
        clear hb
        obtain ⟨c0, c1, c2, c3, c4, c5, c6, c7, c8⟩ := rowc9 RT.out
        cases b1
        · obtain rfl := B1.out rfl
          go_wp2_with fail
          clear c0 c1 c2 c3 c4 c5 c6 c7 c8
          refine (S1.out _).mono ?_
          rintro e w2 ⟨rfl, hb⟩
          replace hB := bstep hB hb
          clear hb
          go_wp2_with fail
          go_ret
          exact ⟨rfl, hB⟩
        · go_wp2_with fail
          clear c0 c1 c2 c3 c4 c5 c6 c7 c8
          refine (S1.out _).mono ?_
          rintro e w2 ⟨rfl, hb⟩
          replace hB := bstep hB hb
          have RT := Lib.hid (keep hb RT.out)
          clear hb
          obtain ⟨c0, c1, c2, c3, c4, c5, c6, c7, c8⟩ := rowc9 RT.out
          cases b2
          · obtain rfl := B2.out rfl
            go_wp2_with fail
            clear c0 c1 c2 c3 c4 c5 c6 c7 c8
            refine (S2.out _).mono ?_
            rintro e w3 ⟨rfl, hb⟩
            replace hB := bstep hB hb
            clear hb
            go_wp2_with fail
            go_ret
            exact ⟨rfl, hB⟩
          · have HI := Lib.hid (HI2.out (by trivial) (by trivial) (by trivial))
            go_wp2_with fail
            clear c0 c1 c2 c3 c4 c5 c6 c7 c8
            refine (S2.out _).mono ?_
            rintro e w3 ⟨rfl, hb⟩
            replace hB := bstep hB hb
            clear hb
            go_wp2_with fail
            go_roundw
            case rel => exact ⟨k + 1, hlt, by go_num, hB, HI⟩
            case measure => simp [intOf]; omega
    · have hkn : k = n := by omega
      subst hkn
      obtain rfl := HR0.out HI.out
      have h24 : decide ((k : Int) ≤ 24) = decide (k ≤ 24) := by
        by_cases h : k ≤ 24
        · rw [decide_eq_true h, decide_eq_true (by omega)]
        · rw [decide_eq_false h, decide_eq_false (by omega)]
      go_wp2_with fail
      go_ret
      exact ⟨rfl, hB⟩


end Go.Proofs.YthkkdepppjiaeaaGreatDoor
