/- A PART OF THE PROOF, JOINED OUT OF 4 TEXTS. -/
import Derived.Test.YthkkdepppjiaeaaGreatDoorPjRational
import Derived.Deep.DeepCutAuto
/- Walks of the program's package vector: the operations on numbers, coordinates, of. -/
namespace Go.Proofs.YthkkdepppjiaeaaGreatDoor
open Go.RowKit Go.Shelf Go.Sort

attribute [local go_sem] Oper.semAt_some

set_option maxHeartbeats 2000000 in
theorem ve_add (x y : Rat) (w : World) (hE : Env w) (hx : Sz 5000000 x) (hy : Sz 5000000 y) :
    Calls Tryz.prog 155 #[.string (rs x), .string (rs y)] w fun e w' => e = .returned (.string (rs (x + y))) ∧ Below w.heap.size w w' := by
  have HA := Lib.hid (ra_Add x y w hE hx hy)
  clear hE hx hy
  generalize rs (x + y) = z at *
  go_enter Tryz.func155, Tryz.ntmps155
  go_wp2_with fail
  refine HA.out.mono ?_
  rintro e w1 ⟨rfl, hB⟩
  go_wp2_with fail
  go_ret
  exact ⟨rfl, hB⟩
set_option maxHeartbeats 2000000 in
theorem ve_sub (x y : Rat) (w : World) (hE : Env w) (hx : Sz 5000000 x) (hy : Sz 5000000 y) :
    Calls Tryz.prog 126 #[.string (rs x), .string (rs y)] w fun e w' => e = .returned (.string (rs (x - y))) ∧ Below w.heap.size w w' := by
  have HA := Lib.hid (ra_Sub x y w hE hx hy)
  clear hE hx hy
  generalize rs (x - y) = z at *
  go_enter Tryz.func126, Tryz.ntmps126
  go_wp2_with fail
  refine HA.out.mono ?_
  rintro e w1 ⟨rfl, hB⟩
  go_wp2_with fail
  go_ret
  exact ⟨rfl, hB⟩
set_option maxHeartbeats 2000000 in
theorem ve_mul (x y : Rat) (w : World) (hE : Env w) (hx : Sz 5000000 x) (hy : Sz 5000000 y) :
    Calls Tryz.prog 154 #[.string (rs x), .string (rs y)] w fun e w' => e = .returned (.string (rs (x * y))) ∧ Below w.heap.size w w' := by
  have HA := Lib.hid (ra_Mul x y w hE hx hy)
  clear hE hx hy
  generalize rs (x * y) = z at *
  go_enter Tryz.func154, Tryz.ntmps154
  go_wp2_with fail
  refine HA.out.mono ?_
  rintro e w1 ⟨rfl, hB⟩
  go_wp2_with fail
  go_ret
  exact ⟨rfl, hB⟩
theorem rs_0 : rs 0 = ⟨#[48]⟩ := by rw [rs_one rfl]; exact iS_0
theorem sz_0 (k : Nat) (h : 1 ≤ k) : Sz k 0 := by
  refine ⟨?_, ?_⟩
  · show nl 0 ≤ k; rw [nl_0]; exact h
  · show nl 1 ≤ k
    rw [show nl 1 = 1 by unfold nl; rw [Lib.decDigits]; rfl]; exact h
set_option maxHeartbeats 2000000 in
theorem ve_sign (x : Rat) (w : World) (hE : Env w) (hx : Sz 5000000 x) :
    Calls Tryz.prog 125 #[.string (rs x)] w fun e w' => e = .returned (.int .i64 (cmpQ x 0)) ∧ Below w.heap.size w w' := by
  have HA := ra_Compare x 0 w hE hx (sz_0 _ (by decide))
  rw [rs_0] at HA
  have HA := Lib.hid HA
  clear hE hx
  generalize cmpQ x 0 = z at *
  go_enter Tryz.func125, Tryz.ntmps125
  go_wp2_with fail
  refine HA.out.mono ?_
  rintro e w1 ⟨rfl, hB⟩
  go_wp2_with fail
  go_ret
  exact ⟨rfl, hB⟩

theorem vec_row : RowTy Tryz.prog 24 3 := rowTy_struct Tryz.underlying24 (by kernel_rfl)
theorem arr_row : RowTy Tryz.prog 170 3 := rowTy_array Tryz.underlying170 (by kernel_rfl)

set_option maxHeartbeats 2000000 in
theorem ve_coordinates (a b c : ByteArray) (w : World) :
    Calls Tryz.prog 101 #[.agg #[.string a, .string b, .string c]] w fun e w' => e = .returned (.agg #[.string a, .string b, .string c]) ∧ Below w.heap.size w w' := by
  go_enter Tryz.func101, Tryz.ntmps101
  go_upto_region 1 with fail
  generalize hW : (World.alloc w _).alloc _ = W
  obtain ⟨hB, hsz, R1, R2⟩ := A2 hW
  have R1 := Lib.hid R1
  have R2 := Lib.hid R2
  clear hW hsz
  obtain ⟨R1c0, R1c1, R1c2, R1f0, R1f1, R1f2⟩ := row3 R1.out
  obtain ⟨R2c0, R2c1, R2c2, R2f0, R2f1, R2f2⟩ := row3 R2.out
  go_wp2_with fail
  exact bodyPost_ret (res_c rfl arr_row rfl (store3 R2.out _ _ _) rfl) rfl ⟨rfl, store3_below hB (by omega) _ _ _⟩

set_option maxHeartbeats 2000000 in
theorem ve_of (a b c : ByteArray) (w : World) :
    Calls Tryz.prog 180 #[.agg #[.string a, .string b, .string c]] w fun e w' => e = .returned (.agg #[.string a, .string b, .string c]) ∧ Below w.heap.size w w' := by
  go_enter Tryz.func180, Tryz.ntmps180
  go_upto_region 1 with fail
  generalize hW : (World.alloc w _).alloc _ = W
  obtain ⟨hB, hsz, R1, R2⟩ := A2 hW
  have R1 := Lib.hid R1
  have R2 := Lib.hid R2
  clear hW hsz
  obtain ⟨R1c0, R1c1, R1c2, R1f0, R1f1, R1f2⟩ := row3 R1.out
  obtain ⟨R2c0, R2c1, R2c2, R2f0, R2f1, R2f2⟩ := row3 R2.out
  go_wp2_with fail
  exact bodyPost_ret (res_c rfl vec_row rfl (store3 R2.out _ _ _) rfl) rfl ⟨rfl, store3_below hB (by omega) _ _ _⟩
end Go.Proofs.YthkkdepppjiaeaaGreatDoor

/- Walks of the program's package vector: Valid, check. -/
namespace Go.Proofs.YthkkdepppjiaeaaGreatDoor
open Go.RowKit Go.Shelf Go.Sort

attribute [local go_sem] Oper.semAt_some

set_option maxRecDepth 100000 in
set_option maxHeartbeats 4000000 in
theorem ve_Valid (a b c : ByteArray) (w : World) (hE : Env w) (ha : a.size ≤ 10000000) (hb : b.size ≤ 10000000) (hc : c.size ≤ 10000000) :
    Calls Tryz.prog 61 #[.agg #[.string a, .string b, .string c]] w fun e w' => e = .returned (.bool (rvB a && rvB b && rvB c)) ∧ Below w.heap.size w w' := by
  have HA := Lib.hid (fun w hE => ra_Valid a w hE ha)
  have HB := Lib.hid (fun w hE => ra_Valid b w hE hb)
  have HC := Lib.hid (fun w hE => ra_Valid c w hE hc)
  have HK := Lib.hid (fun w => ve_coordinates a b c w)
  have HE := Lib.hid hE
  clear ha hb hc hE
  generalize rvB a = va at *
  generalize rvB b = vb at *
  generalize rvB c = vc at *
  have i0 : ∀ w, (Instr.index 170 (.agg #[.string a, .string b, .string c]) (.int .i64 0)).run Tryz.prog w = .ok (.string a) w := fun _ => by kernel_rfl
  have i1 : ∀ w, (Instr.index 170 (.agg #[.string a, .string b, .string c]) (.int .i64 1)).run Tryz.prog w = .ok (.string b) w := fun _ => by kernel_rfl
  have i2 : ∀ w, (Instr.index 170 (.agg #[.string a, .string b, .string c]) (.int .i64 2)).run Tryz.prog w = .ok (.string c) w := fun _ => by kernel_rfl
  go_enter Tryz.func61, Tryz.ntmps61
  go_wp2_with fail
  generalize hW : World.alloc w _ = W
  obtain ⟨hB, hsz, R1⟩ := A1 hW
  have R1 := Lib.hid R1
  clear hW hsz
  refine (HK.out _).mono ?_
  rintro e w1 ⟨rfl, hb⟩
  replace hB := bstep hB hb
  clear hb
  go_wp2_with fail
  go_loopw [8] (fun x wr => ∃ k : Int, x = .int .i64 k ∧ Below w.heap.size w wr ∧ (k = 0 ∨ (k = 1 ∧ va = true) ∨ (k = 2 ∧ va = true ∧ vb = true) ∨ (k = 3 ∧ va = true ∧ vb = true ∧ vc = true))) (fun x _ => (3 - intOf x).toNat)
  case atStart => exact ⟨0, rfl, hB, Or.inl rfl⟩
  case round =>
    obtain ⟨k, rfl, hBr, hk⟩ := hrel
    clear hB
    rcases hk with rfl | ⟨rfl, rfl⟩ | ⟨rfl, rfl, rfl⟩ | ⟨rfl, rfl, rfl, rfl⟩
    · go_wp2_with fail
      refine (HA.out _ (HE.out.below hBr)).mono ?_
      rintro e w2 ⟨rfl, hb⟩
      replace hBr := bstep hBr hb
      clear hb
      cases va
      · go_wp2_with fail
        go_ret
        exact ⟨rfl, hBr⟩
      · go_wp2_with fail
        go_roundw
        case rel => exact ⟨1, rfl, hBr, by simp⟩
        case measure => decide
    · go_wp2_with fail
      refine (HB.out _ (HE.out.below hBr)).mono ?_
      rintro e w2 ⟨rfl, hb⟩
      replace hBr := bstep hBr hb
      clear hb
      cases vb
      · go_wp2_with fail
        go_ret
        exact ⟨rfl, hBr⟩
      · go_wp2_with fail
        go_roundw
        case rel => exact ⟨2, rfl, hBr, by simp⟩
        case measure => decide
    · go_wp2_with fail
      refine (HC.out _ (HE.out.below hBr)).mono ?_
      rintro e w2 ⟨rfl, hb⟩
      replace hBr := bstep hBr hb
      clear hb
      cases vc
      · go_wp2_with fail
        go_ret
        exact ⟨rfl, hBr⟩
      · go_wp2_with fail
        go_roundw
        case rel => exact ⟨3, rfl, hBr, by simp⟩
        case measure => decide
    · go_wp2_with fail
      go_ret
      exact ⟨rfl, hBr⟩

/-- The n vectors that lie from a place on. -/
def VecsAt (w : World) (b o n : Nat) (S : Nat → ByteArray × ByteArray × ByteArray) : Prop :=
  ∀ i, i < n → w.cell? ⟨b, o + i * 3, none⟩ = some (.string (S i).1) ∧ w.cell? ⟨b, o + i * 3 + 1, none⟩ = some (.string (S i).2.1) ∧ w.cell? ⟨b, o + i * 3 + 2, none⟩ = some (.string (S i).2.2)
theorem VecsAt.below {w w' : World} {b o n : Nat} {S : Nat → ByteArray × ByteArray × ByteArray} (h : VecsAt w b o n S) (hb : Below w.heap.size w w') : VecsAt w' b o n S := fun i hi => by
  obtain ⟨h1, h2, h3⟩ := h i hi
  have hl : b < w.heap.size := World.block_lt_of_cell? w _ h1
  exact ⟨(hb.cell (p := ⟨b, _, none⟩) hl).trans h1, (hb.cell (p := ⟨b, _, none⟩) hl).trans h2, (hb.cell (p := ⟨b, _, none⟩) hl).trans h3⟩
/-- Is a vector of texts valid? -/
noncomputable def vvB (s : ByteArray × ByteArray × ByteArray) : Bool := rvB s.1 && rvB s.2.1 && rvB s.2.2

set_option maxRecDepth 100000 in
set_option maxHeartbeats 4000000 in
theorem ve_check (b o n c : Nat) (S : Nat → ByteArray × ByteArray × ByteArray) (r : Int) (w : World) (hE : Env w) (hn : n ≤ 100000000) (hS : VecsAt w b o n S)
    (hs : ∀ i, i < n → (S i).1.size ≤ 10000000 ∧ (S i).2.1.size ≤ 10000000 ∧ (S i).2.2.size ≤ 10000000)
    (hr0 : (∀ i, i < n → vvB (S i) = true) → r = 0) (hr1 : (∃ i, i < n ∧ vvB (S i) = false) → r = 1) :
    Calls Tryz.prog 123 #[.slice (some ⟨b, o, none⟩) n c] w fun e w' => e = .returned (.int .i64 r) ∧ Below w.heap.size w w' := by
  have HS := Lib.hid hS
  have HZ := Lib.hid hs
  have HR0 := Lib.hid hr0
  have HR1 := Lib.hid hr1
  have HE := Lib.hid hE
  clear hS hs hr0 hr1 hE
  go_enter Tryz.func123, Tryz.ntmps123
  go_wp2_with fail
  go_loopw [7] (fun x wr => ∃ k : Nat, k ≤ n ∧ x = .int .i64 k ∧ Below w.heap.size w wr ∧ Hid (∀ i, i < k → vvB (S i) = true)) (fun x _ => n - (intOf x).toNat)
  case atStart => exact ⟨0, Nat.zero_le _, rfl, Below.refl _ _, Lib.hid (fun i hi => absurd hi (by omega))⟩
  case round =>
    obtain ⟨k, hk, rfl, hBr, HI⟩ := hrel
    by_cases hlt : k < n
    · obtain ⟨c0, c1, c2⟩ := (HS.out.below hBr) k hlt
      have Hv := Lib.hid (fun w hE => ve_Valid (S k).1 (S k).2.1 (S k).2.2 w hE (HZ.out k hlt).1 (HZ.out k hlt).2.1 (HZ.out k hlt).2.2)
      have HI2 : vvB (S k) = true → Hid (∀ i, i < k + 1 → vvB (S i) = true) := fun h => Lib.hid (fun i hi => by
        by_cases e : i = k
        · rw [e]; exact h
        · exact HI.out i (by omega))
      have HI3 : vvB (S k) = false → r = 1 := fun h => HR1.out ⟨k, hlt, h⟩
      have HI2 := Lib.hid HI2
      have HI3 := Lib.hid HI3
      have hvv : (rvB (S k).1 && rvB (S k).2.1 && rvB (S k).2.2) = vvB (S k) := rfl
      rw [hvv] at Hv
      clear hvv HI
      generalize vvB (S k) = ok at *
      generalize (S k).1 = s1 at *
      generalize (S k).2.1 = s2 at *
      generalize (S k).2.2 = s3 at *
      go_wp2_with fail
      refine (Hv.out _ (HE.out.below (bstep hBr (A1 rfl).1))).mono ?_
      rintro e w2 ⟨rfl, hb⟩
      replace hBr := bstep (bstep hBr (A1 rfl).1) hb
      clear hb c0 c1 c2
      cases ok
      · go_wp2_with fail
        go_ret
        rw [HI3.out (by trivial)]
        exact ⟨rfl, hBr⟩
      · go_wp2_with fail
        go_roundw
        case rel => exact ⟨k + 1, by omega, by go_num, hBr, HI2.out (by trivial)⟩
        case measure => simp [intOf]; omega
    · have hkn : k = n := by omega
      have HV2 : Hid (r = 0) := Lib.hid (HR0.out (fun i hi => HI.out i (by omega)))
      go_wp2_with fail
      go_ret
      rw [HV2.out]
      exact ⟨rfl, hBr⟩
end Go.Proofs.YthkkdepppjiaeaaGreatDoor

/- Walks of the program's package vector: zip. -/
namespace Go.Proofs.YthkkdepppjiaeaaGreatDoor
open Go.RowKit Go.Shelf Go.Sort

attribute [local go_sem] Oper.semAt_some

theorem A6 {w W : World} {a b c d f g : Obj} (h : (((((w.alloc a).alloc b).alloc c).alloc d).alloc f).alloc g = W) : Below w.heap.size w W ∧ W.heap.size = w.heap.size + 6 ∧ W.heap[w.heap.size]? = some a ∧ W.heap[w.heap.size + 1]? = some b ∧ W.heap[w.heap.size + 2]? = some c ∧ W.heap[w.heap.size + 3]? = some d ∧ W.heap[w.heap.size + 4]? = some f ∧ W.heap[w.heap.size + 5]? = some g := by
  obtain ⟨h1, h2, h3, h4, h5, h6, h7⟩ := A5 (w := w) (a := a) (b := b) (c := c) (d := d) (f := f) rfl
  obtain ⟨g1, g2, g3⟩ := A1 h
  exact ⟨bstep h1 g1, by omega, keep g1 h3, keep g1 h4, keep g1 h5, keep g1 h6, keep g1 h7, by rw [h2] at g3; exact g3⟩
theorem set3_0 {w : World} {g : Nat} {a b c x : Value} {t : TypeId} (h : w.heap[g]? = some (.cells #[a, b, c] t (0, 0))) : (w.setCell ⟨g, 0, none⟩ x).heap[g]? = some (.cells #[x, b, c] t (0, 0)) := by
  rw [heap_setCell_same w g 0 _ _ x h]; rfl
theorem set3_1 {w : World} {g : Nat} {a b c x : Value} {t : TypeId} (h : w.heap[g]? = some (.cells #[a, b, c] t (0, 0))) : (w.setCell ⟨g, 1, none⟩ x).heap[g]? = some (.cells #[a, x, c] t (0, 0)) := by
  rw [heap_setCell_same w g 1 _ _ x h]; rfl
theorem set3_2 {w : World} {g : Nat} {a b c x : Value} {t : TypeId} (h : w.heap[g]? = some (.cells #[a, b, c] t (0, 0))) : (w.setCell ⟨g, 2, none⟩ x).heap[g]? = some (.cells #[a, b, x] t (0, 0)) := by
  rw [heap_setCell_same w g 2 _ _ x h]; rfl
theorem set_other {w : World} {g k i : Nat} {x : Value} {o : Obj} (hne : k ≠ g) (h : w.heap[k]? = some o) : (w.setCell ⟨g, i, none⟩ x).heap[k]? = some o := by
  rw [heap_setCell_other w ⟨g, i, none⟩ _ x hne]; exact h
theorem set_below {w W : World} {g i : Nat} {x : Value} (hB : Below w.heap.size w W) (h : w.heap.size ≤ g) : Below w.heap.size w (W.setCell ⟨g, i, none⟩ x) := hB.setCell (p := ⟨g, i, none⟩) h _

theorem lp {w : World} {p : Nat} {o : Obj} (h : w.heap[p]? = some o) : p ≠ w.heap.size := by have := lt_of_row h; omega
theorem lp2 {w : World} {p : Nat} {o : Obj} (h : w.heap[p]? = some o) : p < w.heap.size := lt_of_row h
theorem cellA {w : World} {a : Addr} {v : Value} {o : Obj} (h : w.cell? a = some v) : (w.alloc o).cell? a = some v := by
  rw [World.cell?_alloc_lt _ _ _ (World.block_lt_of_cell? w a h)]; exact h
theorem cellS {w : World} {b j q i : Nat} {v x : Value} (hne : q ≠ b) (h : w.cell? ⟨b, j, none⟩ = some v) : (w.setCell ⟨q, i, none⟩ x).cell? ⟨b, j, none⟩ = some v := by
  rw [World.cell?_setCell_other _ _ _ _ (fun e => hne (by injection e))]; exact h

section
variable {w : World} {G : Nat} {a0 a1 a2 b0 b1 b2 : Value}
theorem k6A {o : Obj} (h : (w.drew).cell? ⟨G, 0, none⟩ = some a0 ∧ (w.drew).cell? ⟨G, 1, none⟩ = some a1 ∧ (w.drew).cell? ⟨G, 2, none⟩ = some a2 ∧ (w.drew).cell? ⟨G + 1, 0, none⟩ = some b0 ∧ (w.drew).cell? ⟨G + 1, 1, none⟩ = some b1 ∧ (w.drew).cell? ⟨G + 1, 2, none⟩ = some b2) : ((w.alloc o).drew).cell? ⟨G, 0, none⟩ = some a0 ∧ ((w.alloc o).drew).cell? ⟨G, 1, none⟩ = some a1 ∧ ((w.alloc o).drew).cell? ⟨G, 2, none⟩ = some a2 ∧ ((w.alloc o).drew).cell? ⟨G + 1, 0, none⟩ = some b0 ∧ ((w.alloc o).drew).cell? ⟨G + 1, 1, none⟩ = some b1 ∧ ((w.alloc o).drew).cell? ⟨G + 1, 2, none⟩ = some b2 := by
  obtain ⟨h0, h1, h2, h3, h4, h5⟩ := h
  exact ⟨cellA (w := w.drew) h0, cellA (w := w.drew) h1, cellA (w := w.drew) h2, cellA (w := w.drew) h3, cellA (w := w.drew) h4, cellA (w := w.drew) h5⟩
end

set_option maxHeartbeats 2000000 in
/-- coordinates lays just two blocks. -/
theorem ve_coordinates_exact (a b c : ByteArray) (w : World) :
    Calls Tryz.prog 101 #[.agg #[.string a, .string b, .string c]] w fun e w' => e = .returned (.agg #[.string a, .string b, .string c]) ∧ w' = (w.alloc (.cells #[.string a, .string b, .string c] 172)).alloc (.cells #[.string a, .string b, .string c] 170) := by
  go_enter Tryz.func101, Tryz.ntmps101
  go_wp2_with fail
  have hW : ((w.alloc (Obj.cells #[Value.string a, Value.string b, Value.string c] 172)).alloc (Obj.cells #[Value.string a, Value.string b, Value.string c] 170)).heap[w.heap.size + 1]? = some (Obj.cells #[Value.string a, Value.string b, Value.string c] 170 (0, 0)) := (A2 rfl).2.2.2
  exact bodyPost_ret (res_c rfl arr_row rfl hW rfl) rfl ⟨rfl, rfl⟩

set_option maxRecDepth 100000 in
set_option maxHeartbeats 8000000 in
theorem ve_zip (g : Nat) (a0 a1 a2 b0 b1 b2 z0 z1 z2 : ByteArray) (w : World) (hE : Env w)
    (eg : ∀ args w, (callFunc g args).run Tryz.prog w = .ok (.enter g args) w)
    (h0 : ∀ w, Env w → Calls Tryz.prog g #[.string a0, .string b0] w fun e w' => e = .returned (.string z0) ∧ Below w.heap.size w w')
    (h1 : ∀ w, Env w → Calls Tryz.prog g #[.string a1, .string b1] w fun e w' => e = .returned (.string z1) ∧ Below w.heap.size w w')
    (h2 : ∀ w, Env w → Calls Tryz.prog g #[.string a2, .string b2] w fun e w' => e = .returned (.string z2) ∧ Below w.heap.size w w') :
    Calls Tryz.prog 153 #[fnV g, .agg #[.string a0, .string a1, .string a2], .agg #[.string b0, .string b1, .string b2]] w fun e w' => e = .returned (.agg #[.string z0, .string z1, .string z2]) ∧ Below w.heap.size w w' := by
  have H0 := Lib.hid h0
  have H1 := Lib.hid h1
  have H2 := Lib.hid h2
  have HE := Lib.hid hE
  clear h0 h1 h2 hE
  go_enter Tryz.func153, Tryz.ntmps153
  go_wp2_with fail
  generalize hW : ((World.alloc w _).alloc _).alloc _ = W
  obtain ⟨hB, hsz, R4, R5, R6⟩ := A3 hW
  have R4 := Lib.hid R4
  have R5 := Lib.hid R5
  have R6 := Lib.hid R6
  clear hW hsz
  go_cut [7, 8] (fun x y wc => ∃ p q : Nat, x = .pointer (some ⟨p, 0, none⟩) ∧ y = .pointer (some ⟨q, 0, none⟩) ∧ Hid (wc.heap[p]? = some (.cells #[.string a0, .string a1, .string a2] 170 (0, 0))) ∧ Hid (wc.heap[q]? = some (.cells #[.string b0, .string b1, .string b2] 170 (0, 0))) ∧
      Hid (wc.heap[w.heap.size + 2]? = some (.cells #[.string ⟨#[]⟩, .string ⟨#[]⟩, .string ⟨#[]⟩] 24 (0, 0))) ∧ Below w.heap.size w wc)
  case first =>
    rw [show w.heap.size + 1 + 1 = w.heap.size + 2 from rfl]
    obtain ⟨R4c0, R4c1, R4c2, R4f0, R4f1, R4f2⟩ := row3 R4.out
    obtain ⟨R5c0, R5c1, R5c2, R5f0, R5f1, R5f2⟩ := row3 R5.out
    have lW := lt_of_row R6.out
    have KX := @ve_coordinates_exact
    first
    | go_region_held3 (fun w' => w'.cell? ⟨w.heap.size, 0, none⟩ = some (.string a0) ∧ w'.cell? ⟨w.heap.size, 1, none⟩ = some (.string a1) ∧ w'.cell? ⟨w.heap.size, 2, none⟩ = some (.string a2) ∧ w'.cell? ⟨w.heap.size + 1, 0, none⟩ = some (.string b0) ∧ w'.cell? ⟨w.heap.size + 1, 1, none⟩ = some (.string b1) ∧ w'.cell? ⟨w.heap.size + 1, 2, none⟩ = some (.string b2)) (first | ((repeat (with_reducible refine k6A ?_)); exact ⟨R4c0, R4c1, R4c2, R5c0, R5c1, R5c2⟩))
        (first | (go_at_call 101; (with_reducible refine (KX _ _ _ _).mono ?_); rintro e w' ⟨rfl, rfl⟩))
    | fail
    all_goals
      generalize hX : (((((World.alloc W _).alloc _).alloc _).alloc _).alloc _).alloc _ = X
      obtain ⟨hb6, hs6, r0, r1, r2, r3, r4, r5⟩ := A6 hX
      clear hX
      go_wp2_with fail
      go_meet
      refine ⟨_, _, rfl, rfl, Lib.hid ?_, Lib.hid ?_, Lib.hid (keep hb6.drew R6.out), (bstep hB hb6).drew⟩ <;> first | exact r1 | exact r2 | exact r3 | exact r4 | exact r5 | exact r0
  case rest =>
    obtain ⟨p, q, rfl, rfl, RP, RQ, R6, hB⟩ := hcut
    clear R4 R5
    have RP0 := RP
    have RQ0 := RQ
    have R60 := R6
    go_wp2_with fail
    generalize hW : World.alloc _ _ = V
    obtain ⟨hb, hsz, R9⟩ := A1 hW
    replace hB := bstep hB hb
    have RP := Lib.hid (keep hb RP.out)
    have RQ := Lib.hid (keep hb RQ.out)
    have R6 := Lib.hid (keep hb R6.out)
    clear hb
    have R9 := Lib.hid R9
    clear hW hsz
    have n1 : Hid (p ≠ wc.heap.size) := Lib.hid (lp RP0.out)
    have n2 : Hid (q ≠ wc.heap.size) := Lib.hid (lp RQ0.out)
    have n3 : Hid (w.heap.size + 2 ≠ wc.heap.size) := Lib.hid (lp R60.out)
    have n4 : Hid (w.heap.size ≤ wc.heap.size) := Lib.hid (by have := lp2 R60.out; omega)
    clear RP0 RQ0 R60
    go_loopw [17] (fun x wr => ∃ k : Int, x = .int .i64 k ∧ Hid (wr.heap[p]? = some (.cells #[.string a0, .string a1, .string a2] 170 (0, 0))) ∧ Hid (wr.heap[q]? = some (.cells #[.string b0, .string b1, .string b2] 170 (0, 0))) ∧
      Hid (wr.heap[w.heap.size + 2]? = some (.cells #[.string ⟨#[]⟩, .string ⟨#[]⟩, .string ⟨#[]⟩] 24 (0, 0))) ∧ Below w.heap.size w wr ∧
      ((k = 0 ∧ Hid (wr.heap[wc.heap.size]? = some (.cells #[.string ⟨#[]⟩, .string ⟨#[]⟩, .string ⟨#[]⟩] 170 (0, 0)))) ∨ (k = 1 ∧ Hid (wr.heap[wc.heap.size]? = some (.cells #[.string z0, .string ⟨#[]⟩, .string ⟨#[]⟩] 170 (0, 0)))) ∨
        (k = 2 ∧ Hid (wr.heap[wc.heap.size]? = some (.cells #[.string z0, .string z1, .string ⟨#[]⟩] 170 (0, 0)))) ∨ (k = 3 ∧ Hid (wr.heap[wc.heap.size]? = some (.cells #[.string z0, .string z1, .string z2] 170 (0, 0)))))) (fun x _ => (3 - intOf x).toNat)
    case atStart => exact ⟨0, rfl, RP, RQ, R6, hB, Or.inl ⟨rfl, R9⟩⟩
    case round =>
      clear RP RQ R6 R9 hB
      obtain ⟨k, rfl, RP, RQ, R6, hBr, hk⟩ := hrel
      rcases hk with ⟨rfl, R9⟩ | ⟨rfl, R9⟩ | ⟨rfl, R9⟩ | ⟨rfl, R9⟩
      · go_wp2_with fail
        obtain ⟨p0, p1, p2, p3, p4, p5⟩ := row3 RP.out
        obtain ⟨q0, q1, q2, q3, q4, q5⟩ := row3 RQ.out
        have hB0 := hBr.drew
        first
        | go_region_held3 (fun w' => w'.cell? ⟨p, 0, none⟩ = some (.string a0) ∧ w'.cell? ⟨q, 0, none⟩ = some (.string b0)) (first | exact ⟨p0, q0⟩ | exact ⟨by with_reducible assumption, by with_reducible assumption⟩ | exact ⟨cellS (Ne.symm n1.out) (by with_reducible assumption), cellS (Ne.symm n2.out) (by with_reducible assumption)⟩)
            (first | ((with_reducible refine (H0.out _ (HE.out.below hB0)).mono ?_); rintro e w2 ⟨rfl, hb⟩; have hB1 := bstep hB0 hb; have RP := Lib.hid (keep hb RP.out); have RQ := Lib.hid (keep hb RQ.out); have R6 := Lib.hid (keep hb R6.out); have R9 := Lib.hid (keep hb R9.out); obtain ⟨p0, p1, p2, p3, p4, p5⟩ := row3 RP.out; obtain ⟨q0, q1, q2, q3, q4, q5⟩ := row3 RQ.out; obtain ⟨o0, o1, o2, o3, o4, o5⟩ := row3 R9.out; clear hb))
        | fail
        go_wp2_with fail
        go_roundw
        case rel => exact ⟨_, rfl, Lib.hid (set_other n1.out RP.out), Lib.hid (set_other n2.out RQ.out), Lib.hid (set_other n3.out R6.out), set_below hB1 n4.out, Or.inr (Or.inl ⟨rfl, Lib.hid (set3_0 R9.out)⟩)⟩
        case measure => decide
      · go_wp2_with fail
        obtain ⟨p0, p1, p2, p3, p4, p5⟩ := row3 RP.out
        obtain ⟨q0, q1, q2, q3, q4, q5⟩ := row3 RQ.out
        have hB0 := hBr.drew
        first
        | go_region_held3 (fun w' => w'.cell? ⟨p, 1, none⟩ = some (.string a1) ∧ w'.cell? ⟨q, 1, none⟩ = some (.string b1)) (first | exact ⟨p1, q1⟩ | exact ⟨by with_reducible assumption, by with_reducible assumption⟩ | exact ⟨cellS (Ne.symm n1.out) (by with_reducible assumption), cellS (Ne.symm n2.out) (by with_reducible assumption)⟩)
            (first | ((with_reducible refine (H1.out _ (HE.out.below hB0)).mono ?_); rintro e w2 ⟨rfl, hb⟩; have hB1 := bstep hB0 hb; have RP := Lib.hid (keep hb RP.out); have RQ := Lib.hid (keep hb RQ.out); have R6 := Lib.hid (keep hb R6.out); have R9 := Lib.hid (keep hb R9.out); obtain ⟨p0, p1, p2, p3, p4, p5⟩ := row3 RP.out; obtain ⟨q0, q1, q2, q3, q4, q5⟩ := row3 RQ.out; obtain ⟨o0, o1, o2, o3, o4, o5⟩ := row3 R9.out; clear hb))
        | fail
        go_wp2_with fail
        go_roundw
        case rel => exact ⟨_, rfl, Lib.hid (set_other n1.out RP.out), Lib.hid (set_other n2.out RQ.out), Lib.hid (set_other n3.out R6.out), set_below hB1 n4.out, Or.inr (Or.inr (Or.inl ⟨rfl, Lib.hid (set3_1 R9.out)⟩))⟩
        case measure => decide
      · go_wp2_with fail
        obtain ⟨p0, p1, p2, p3, p4, p5⟩ := row3 RP.out
        obtain ⟨q0, q1, q2, q3, q4, q5⟩ := row3 RQ.out
        have hB0 := hBr.drew
        first
        | go_region_held3 (fun w' => w'.cell? ⟨p, 2, none⟩ = some (.string a2) ∧ w'.cell? ⟨q, 2, none⟩ = some (.string b2)) (first | exact ⟨p2, q2⟩ | exact ⟨by with_reducible assumption, by with_reducible assumption⟩ | exact ⟨cellS (Ne.symm n1.out) (by with_reducible assumption), cellS (Ne.symm n2.out) (by with_reducible assumption)⟩)
            (first | ((with_reducible refine (H2.out _ (HE.out.below hB0)).mono ?_); rintro e w2 ⟨rfl, hb⟩; have hB1 := bstep hB0 hb; have RP := Lib.hid (keep hb RP.out); have RQ := Lib.hid (keep hb RQ.out); have R6 := Lib.hid (keep hb R6.out); have R9 := Lib.hid (keep hb R9.out); obtain ⟨p0, p1, p2, p3, p4, p5⟩ := row3 RP.out; obtain ⟨q0, q1, q2, q3, q4, q5⟩ := row3 RQ.out; obtain ⟨o0, o1, o2, o3, o4, o5⟩ := row3 R9.out; clear hb))
        | fail
        go_wp2_with fail
        go_roundw
        case rel => exact ⟨_, rfl, Lib.hid (set_other n1.out RP.out), Lib.hid (set_other n2.out RQ.out), Lib.hid (set_other n3.out R6.out), set_below hB1 n4.out, Or.inr (Or.inr (Or.inr ⟨rfl, Lib.hid (set3_2 R9.out)⟩))⟩
        case measure => decide
      · obtain ⟨o0, o1, o2, o3, o4, o5⟩ := row3 R9.out
        go_wp2_with fail
        clear o0 o1 o2 o3 o4 o5
        refine (ve_of z0 z1 z2 _).mono ?_
        rintro e w2 ⟨rfl, hb⟩
        replace hBr := bstep hBr hb
        have R6 := Lib.hid (keep hb R6.out)
        clear hb
        obtain ⟨o0, o1, o2, o3, o4, o5⟩ := row3 R6.out
        go_wp2_with fail
        exact bodyPost_ret (res_c rfl vec_row rfl (store3 R6.out _ _ _) rfl) rfl ⟨rfl, store3_below hBr (by omega) _ _ _⟩
end Go.Proofs.YthkkdepppjiaeaaGreatDoor

/- Walks of the program's package vector: scale, dot. -/
namespace Go.Proofs.YthkkdepppjiaeaaGreatDoor
open Go.RowKit Go.Shelf Go.Sort

attribute [local go_sem] Oper.semAt_some

/-- A vector of numbers. -/
structure V3 where
  x : Rat
  y : Rat
  z : Rat
def vV (a : V3) : Value := .agg #[.string (rs a.x), .string (rs a.y), .string (rs a.z)]
def SzV (k : Nat) (a : V3) : Prop := Sz k a.x ∧ Sz k a.y ∧ Sz k a.z
theorem SzV.mono {j k : Nat} {a : V3} (h : SzV j a) (hk : j ≤ k) : SzV k a := ⟨h.1.mono hk, h.2.1.mono hk, h.2.2.mono hk⟩

theorem eg_mul : ∀ args w, (callFunc 154 args).run Tryz.prog w = .ok (.enter 154 args) w := enters_of Tryz.func154 (by kernel_rfl) rfl

def mulV (a b : V3) : V3 := ⟨a.x * b.x, a.y * b.y, a.z * b.z⟩
def dotV (a b : V3) : Rat := a.x * b.x + a.y * b.y + a.z * b.z
theorem zip_mul (a b : V3) (w : World) (hE : Env w) (ha : SzV 5000000 a) (hb : SzV 5000000 b) :
    Calls Tryz.prog 153 #[fnV 154, vV a, vV b] w fun e w' => e = .returned (vV (mulV a b)) ∧ Below w.heap.size w w' :=
  ve_zip _ _ _ _ _ _ _ _ _ _ w hE eg_mul (fun w hE => ve_mul _ _ w hE ha.1 hb.1) (fun w hE => ve_mul _ _ w hE ha.2.1 hb.2.1) (fun w hE => ve_mul _ _ w hE ha.2.2 hb.2.2)

set_option maxRecDepth 100000 in
set_option maxHeartbeats 4000000 in
theorem ve_dot (a b : V3) (w : World) (hE : Env w) (ha : SzV 500000 a) (hb : SzV 500000 b) :
    Calls Tryz.prog 124 #[vV a, vV b] w fun e w' => e = .returned (.string (rs (dotV a b))) ∧ Below w.heap.size w w' := by
  have HP := Lib.hid (fun w hE => zip_mul a b w hE (ha.mono (by decide)) (hb.mono (by decide)))
  have S1 := Lib.hid (fun w hE => ve_add (a.x * b.x) (a.y * b.y) w hE ((sz_mul ha.1 hb.1).mono (by decide)) ((sz_mul ha.2.1 hb.2.1).mono (by decide)))
  have S2 := Lib.hid (fun w hE => ve_add (a.x * b.x + a.y * b.y) (a.z * b.z) w hE ((sz_add (sz_mul ha.1 hb.1) (sz_mul ha.2.1 hb.2.1)).mono (by decide)) ((sz_mul ha.2.2 hb.2.2).mono (by decide)))
  have HE := Lib.hid hE
  clear hE ha hb
  unfold dotV
  unfold vV mulV at *
  simp only at HP
  generalize rs (a.x * b.x + a.y * b.y + a.z * b.z) = z at *
  generalize rs (a.x * b.x + a.y * b.y) = y at *
  generalize rs (a.x * b.x) = m0 at *
  generalize rs (a.y * b.y) = m1 at *
  generalize rs (a.z * b.z) = m2 at *
  generalize rs a.x = a0 at *
  generalize rs a.y = a1 at *
  generalize rs a.z = a2 at *
  generalize rs b.x = b0 at *
  generalize rs b.y = b1 at *
  generalize rs b.z = b2 at *
  clear a b
  go_enter Tryz.func124, Tryz.ntmps124
  go_wp2_with fail
  generalize hW : (World.alloc w _).alloc _ = W
  obtain ⟨hB, hsz, R2, R3⟩ := A2 hW
  have R2 := Lib.hid R2
  have R3 := Lib.hid R3
  clear hW hsz
  refine (HP.out _ (HE.out.below hB)).mono ?_
  rintro e w1 ⟨rfl, hb⟩
  replace hB := bstep hB hb
  clear hb
  go_wp2_with fail
  generalize hW : World.alloc _ _ = V
  obtain ⟨hb, hsz, R5⟩ := A1 hW
  replace hB := bstep hB hb
  clear hb
  have R5 := Lib.hid R5
  clear hW hsz
  have h0 : ∀ d os, (grow (redrawn V d) os).cell? ⟨w1.heap.size, 0, none⟩ = some (.string m0) := fun d os => cell_regrown (row3 R5.out).1 d os
  have h1 : ∀ d os, (grow (redrawn V d) os).cell? ⟨w1.heap.size, 1, none⟩ = some (.string m1) := fun d os => cell_regrown (row3 R5.out).2.1 d os
  have h2 : ∀ d os, (grow (redrawn V d) os).cell? ⟨w1.heap.size, 2, none⟩ = some (.string m2) := fun d os => cell_regrown (row3 R5.out).2.2.1 d os
  have hE := HE.out.below hB
  have S1 := Lib.hid (fun d os => Calls.regrown_of (S1.out (grow (redrawn V d) os) (hE.below (below_regrown V d os))))
  have S2 := Lib.hid (fun d os => Calls.regrown_of (S2.out (grow (redrawn V d) os) (hE.below (below_regrown V d os))))
  clear hE
  refine wp_region_quiet_below (by kernel_rfl) (by kernel_rfl) ?_
  repeat (first | quiet_step (with_reducible exact S1.out _ _) | quiet_step (with_reducible exact S2.out _ _))
  refine wpQuiet_nil ?_
  intro _ hw'
  obtain ⟨⟨dq, osq⟩, hw''⟩ := hw'
  subst hw''
  have hb := below_regrown V dq osq
  clear h0 h1 h2 S1 S2
  generalize grow (redrawn V dq) osq = W2 at *
  go_wp2_with fail
  go_ret
  exact ⟨rfl, bstep hB hb⟩
end Go.Proofs.YthkkdepppjiaeaaGreatDoor
