/- A PART OF THE PROOF, JOINED OUT OF 2 TEXTS. -/
import Derived.Test.YthkkdepppjiaeaaGreatDoorQdRef
import Derived.Test.YthkkdepppjiaeaaGreatDoorPjRational
/- The reference's numbers as they lie in memory; the small functions of layer 2. -/
namespace Go.Proofs.YthkkdepppjiaeaaGreatDoor
open Go.RowKit Go.Shelf Go.Sort

attribute [local go_sem] Oper.semAt_some

/-- A slice. -/
structure Sl where
  A : Option Addr
  n : Nat
  c : Nat
/-- The slice holds the words of a number. -/
def RN (w : World) (s : Sl) (n : Nat) : Prop := Rd w (.slice s.A s.n s.c) (ws n)
theorem RN.below {w w' : World} {s : Sl} {n : Nat} (h : RN w s n) (hb : Below w.heap.size w w') : RN w' s n := Rd.below h hb
theorem RN.of {w : World} {v : Value} {n : Nat} (h : Rd w v (ws n)) : ∃ s : Sl, v = .slice s.A s.n s.c ∧ RN w s n := by
  obtain ⟨A, c, rfl, h1, h2, h3⟩ := h
  exact ⟨⟨A, (ws n).length, c⟩, rfl, A, c, rfl, h1, h2, h3⟩
theorem RN.len {w : World} {s : Sl} {n : Nat} (h : RN w s n) : s.n = (ws n).length := by
  obtain ⟨A, c, e, _⟩ := h
  injection e
theorem RN.le {w : World} {s : Sl} {n : Nat} (h : RN w s n) : s.n ≤ 9223372036854775807 := by
  obtain ⟨A, c, e, h1, h2, _⟩ := h
  injection e with _ e2 _
  unfold maxLen at h2
  omega
theorem RN.pos {w : World} {s : Sl} {n : Nat} (h : RN w s n) : 0 < s.n ↔ 0 < n := by rw [h.len]; exact ws_len_pos

/-- An integer as the reference keeps it. -/
@[reducible] def zW (b : Bool) (s : Sl) : Value := .agg #[.bool b, .slice s.A s.n s.c]
/-- The sign that goes with an integer. -/
def sgB (z : Int) : Bool := decide (z < 0)
theorem z_row : RowTy Tryz.prog 43 2 := rowTy_struct Tryz.underlying43 (by kernel_rfl)

theorem sg_neg (n : Nat) : (true && decide (0 < n)) = sgB (-(n : Int)) := by
  unfold sgB
  rw [Bool.true_and]
  congr 1
  exact propext (by omega)
theorem sg_pos (n : Nat) : (false && decide (0 < n)) = sgB (n : Int) := by
  unfold sgB
  rw [Bool.false_and, decide_eq_false (by omega)]
theorem sg_any (b : Bool) (n : Nat) : (b && decide (0 < n)) = sgB (if b = true then -(n : Int) else n) := by
  cases b
  · exact sg_pos n
  · exact sg_neg n

set_option maxHeartbeats 2000000 in
theorem r2_Make (b : Bool) (s : Sl) (n : Nat) (w : World) (hs : RN w s n) :
    Calls Tryz.prog 67 #[.bool b, .slice s.A s.n s.c] w fun e w' => e = .returned (zW (sgB (if b = true then -(n : Int) else n)) s) ∧ Below w.heap.size w w' := by
  have hp := hs.pos
  have hle := hs.le
  rw [← sg_any]
  by_cases h0 : 0 < s.n
  · rw [decide_eq_true (hp.1 h0), Bool.and_true]
    clear hp hs
    cases b
    all_goals
      go_enter Tryz.func67, Tryz.ntmps67
      go_upto_region 1 with fail
      generalize hW : World.alloc w _ = W
      obtain ⟨hB, hsz, R2⟩ := A1 hW
      have R2 := Lib.hid R2
      clear hW hsz
      obtain ⟨R2c0, R2c1, R2f0, R2f1⟩ := row2 R2.out
      go_wp2_with fail
      exact bodyPost_ret (res_c rfl z_row rfl (store2 R2.out _ _) rfl) rfl ⟨rfl, store2_below hB (by omega) _ _⟩
  · rw [decide_eq_false (fun h => h0 (hp.2 h)), Bool.and_false]
    have h1 : s.n = 0 := by omega
    have hd : decide ((0 : Int) < (s.n : Int)) = false := by rw [decide_eq_false_iff_not]; omega
    clear hp hs
    cases b
    all_goals
      go_enter Tryz.func67, Tryz.ntmps67
      go_upto_region 1 with fail
      generalize hW : World.alloc w _ = W
      obtain ⟨hB, hsz, R2⟩ := A1 hW
      have R2 := Lib.hid R2
      clear hW hsz
      obtain ⟨R2c0, R2c1, R2f0, R2f1⟩ := row2 R2.out
      go_wp2_with fail
      exact bodyPost_ret (res_c rfl z_row rfl (store2 R2.out _ _) rfl) rfl ⟨by show _ = Ending.returned (.agg #[.bool false, .slice s.A s.n s.c]); rw [h1], store2_below hB (by omega) _ _⟩

set_option maxHeartbeats 2000000 in
theorem r2_Signum (z : Int) (s : Sl) (w : World) (hs : RN w s z.natAbs) :
    Calls Tryz.prog 59 #[zW (sgB z) s] w fun e w' => e = .returned (.int .i64 z.sign) ∧ Below w.heap.size w w' := by
  have hp := hs.pos
  have hle := hs.le
  rcases Int.lt_trichotomy z 0 with h | h | h
  · rw [Int.sign_eq_neg_one_of_neg h]
    have hb : sgB z = true := decide_eq_true h
    rw [hb]
    clear hp hs hb
    go_enter Tryz.func59, Tryz.ntmps59
    go_wp2_with fail
    go_ret
    exact ⟨rfl, (A1 rfl).1⟩
  · subst h
    have h1 : ¬ 0 < s.n := fun h => by have := hp.1 h; simp at this
    have hb : sgB 0 = false := rfl
    rw [hb]
    clear hp hs hb
    go_enter Tryz.func59, Tryz.ntmps59
    go_wp2_with fail
    go_ret
    exact ⟨rfl, (A1 rfl).1⟩
  · rw [Int.sign_eq_one_of_pos h]
    have h1 : 0 < s.n := hp.2 (by omega)
    have hb : sgB z = false := decide_eq_false (by omega)
    rw [hb]
    clear hp hs hb
    go_enter Tryz.func59, Tryz.ntmps59
    go_wp2_with fail
    go_ret
    exact ⟨rfl, (A1 rfl).1⟩

set_option maxHeartbeats 2000000 in
theorem r2_To (z : Int) (s : Sl) (w : World) (hs : RN w s z.natAbs) (hz : nl z.natAbs ≤ 100000000) :
    Calls Tryz.prog 63 #[zW (sgB z) s] w fun e w' => e = .returned (.string (iS z)) ∧ Below w.heap.size w w' := by
  have hl := nl_ws z.natAbs
  have hn := nS_size z.natAbs
  have hsz : ¬ 9223372036854775807 < 1 + (nS z.natAbs).size := by omega
  have HT := Lib.hid (fun W (h : Below w.heap.size w W) => re_To _ z.natAbs W (hs.below h) (by omega))
  clear hn
  by_cases h : z < 0
  · rw [← iS_neg h]
    have hb : sgB z = true := decide_eq_true h
    rw [hb]
    clear hs hb
    go_enter Tryz.func63, Tryz.ntmps63
    go_wp2_with fail
    generalize hW : World.alloc w _ = W
    obtain ⟨hB, hsz, R1⟩ := A1 hW
    have R1 := Lib.hid R1
    clear hW hsz
    refine (HT.out _ hB).mono ?_
    rintro e w1 ⟨rfl, hb⟩
    go_wp2_with fail
    go_ret
    exact ⟨rfl, bstep hB hb⟩
  · rw [← iS_nonneg (by omega)]
    have hb : sgB z = false := decide_eq_false (by omega)
    rw [hb]
    clear hs hb
    go_enter Tryz.func63, Tryz.ntmps63
    go_wp2_with fail
    generalize hW : World.alloc w _ = W
    obtain ⟨hB, hsz, R1⟩ := A1 hW
    have R1 := Lib.hid R1
    clear hW hsz
    refine (HT.out _ hB).mono ?_
    rintro e w1 ⟨rfl, hb⟩
    go_wp2_with fail
    go_ret
    exact ⟨rfl, bstep hB hb⟩

theorem sgB_opp (z : Int) : sgB (if (!sgB z) = true then -((z.natAbs : Nat) : Int) else (z.natAbs : Nat)) = sgB (-z) := by
  unfold sgB
  by_cases h : z < 0
  · rw [decide_eq_true h]
    show decide ((z.natAbs : Int) < 0) = _
    congr 1
    exact propext (by omega)
  · rw [decide_eq_false h]
    show decide (-(z.natAbs : Int) < 0) = _
    congr 1
    exact propext (by omega)

set_option maxHeartbeats 2000000 in
theorem r2_Opposite (z : Int) (s : Sl) (w : World) (hs : RN w s z.natAbs) :
    Calls Tryz.prog 71 #[zW (sgB z) s] w fun e w' => e = .returned (zW (sgB (-z)) s) ∧ Below w.heap.size w w' := by
  have hM := fun W (h : Below w.heap.size w W) => r2_Make (!sgB z) s z.natAbs W (hs.below h)
  rw [sgB_opp] at hM
  have HM := Lib.hid hM
  clear hM hs
  generalize sgB z = b at *
  generalize sgB (-z) = c at *
  go_enter Tryz.func71, Tryz.ntmps71
  go_wp2_with fail
  generalize hW : (World.alloc w _).alloc _ = W
  obtain ⟨hB, hsz, R1, R2⟩ := A2 hW
  have R1 := Lib.hid R1
  have R2 := Lib.hid R2
  clear hW hsz
  refine (HM.out _ hB).mono ?_
  rintro e w1 ⟨rfl, hb⟩
  replace hB := bstep hB hb
  have R2 := Lib.hid (keep hb R2.out)
  clear hb
  obtain ⟨R2c0, R2c1, R2f0, R2f1⟩ := row2 R2.out
  go_wp2_with fail
  exact bodyPost_ret (res_c rfl z_row rfl (store2 R2.out _ _) rfl) rfl ⟨rfl, store2_below hB (by omega) _ _⟩
end Go.Proofs.YthkkdepppjiaeaaGreatDoor

/- Walks of the reference of layer 2: Plus, Minus, Times, Cmp. -/
namespace Go.Proofs.YthkkdepppjiaeaaGreatDoor
open Go.RowKit Go.Shelf Go.Sort

attribute [local go_sem] Oper.semAt_some

theorem rowc2 {W : World} {g : Nat} {a b : Value} {t : TypeId} (h : W.heap[g]? = some (.cells #[a, b] t (0, 0))) : W.cell? ⟨g, 0, none⟩ = some a ∧ W.cell? ⟨g, 1, none⟩ = some b := ⟨(row2 h).1, (row2 h).2.1⟩
theorem rowc3 {W : World} {g : Nat} {a b c : Value} {t : TypeId} (h : W.heap[g]? = some (.cells #[a, b, c] t (0, 0))) : W.cell? ⟨g, 0, none⟩ = some a ∧ W.cell? ⟨g, 1, none⟩ = some b ∧ W.cell? ⟨g, 2, none⟩ = some c := ⟨(row3 h).1, (row3 h).2.1, (row3 h).2.2.1⟩

/-! ### layer 1, said of slices -/
theorem n_Plus (s t : Sl) (n m : Nat) (w : World) (hs : RN w s n) (ht : RN w t m) (hn : nl n ≤ 100000000) (hm : nl m ≤ 100000000) :
    Calls Tryz.prog 106 #[.slice s.A s.n s.c, .slice t.A t.n t.c] w fun e w' => ∃ r : Sl, e = .returned (.slice r.A r.n r.c) ∧ RN w' r (n + m) ∧ Below w.heap.size w w' := by
  have l1 := nl_ws n
  have l2 := nl_ws m
  refine (re_Plus _ _ n m w hs ht (by omega) (by omega)).mono ?_
  rintro e w' ⟨v, rfl, h, hb⟩
  obtain ⟨r, rfl, hr⟩ := RN.of h.rd
  exact ⟨r, rfl, hr, hb⟩
theorem n_Minus (s t : Sl) (n m : Nat) (w : World) (hs : RN w s n) (ht : RN w t m) (hn : nl n ≤ 100000000) (hmn : m ≤ n) :
    Calls Tryz.prog 107 #[.slice s.A s.n s.c, .slice t.A t.n t.c] w fun e w' => ∃ r : Sl, e = .returned (.slice r.A r.n r.c) ∧ RN w' r (n - m) ∧ Below w.heap.size w w' := by
  have l1 := nl_ws n
  refine (re_Minus _ _ n m w hs ht hmn (by omega)).mono ?_
  rintro e w' ⟨v, rfl, h, hb⟩
  obtain ⟨r, rfl, hr⟩ := RN.of h.rd
  exact ⟨r, rfl, hr, hb⟩
theorem n_Times (s t : Sl) (n m : Nat) (w : World) (hs : RN w s n) (ht : RN w t m) (hn : nl n ≤ 100000000) (hm : nl m ≤ 100000000) :
    Calls Tryz.prog 68 #[.slice s.A s.n s.c, .slice t.A t.n t.c] w fun e w' => ∃ r : Sl, e = .returned (.slice r.A r.n r.c) ∧ RN w' r (n * m) ∧ Below w.heap.size w w' := by
  have l1 := nl_ws n
  have l2 := nl_ws m
  refine (re_Times _ _ n m w hs ht (by omega) (by omega)).mono ?_
  rintro e w' ⟨v, rfl, h, hb⟩
  obtain ⟨r, rfl, hr⟩ := RN.of h.rd
  exact ⟨r, rfl, hr, hb⟩
theorem n_Cmp (s t : Sl) (n m : Nat) (w : World) (hs : RN w s n) (ht : RN w t m) :
    Calls Tryz.prog 58 #[.slice s.A s.n s.c, .slice t.A t.n t.c] w fun e w' => e = .returned (.int .i64 (cmpI n m)) ∧ Below w.heap.size w w' := re_CmpB _ _ n m w hs ht
theorem n_Common (s t : Sl) (n m : Nat) (w : World) (hs : RN w s n) (ht : RN w t m) (hn : nl n ≤ 100000000) (hm : nl m ≤ 100000000) :
    Calls Tryz.prog 60 #[.slice s.A s.n s.c, .slice t.A t.n t.c] w fun e w' => ∃ r : Sl, e = .returned (.slice r.A r.n r.c) ∧ RN w' r (Nat.gcd n m) ∧ Below w.heap.size w w' := by
  have l1 := nl_ws n
  have l2 := nl_ws m
  refine (re_Common _ _ n m w hs ht (by omega) (by omega)).mono ?_
  rintro e w' ⟨v, rfl, h, hb⟩
  obtain ⟨r, rfl, hr⟩ := RN.of h
  exact ⟨r, rfl, hr, hb⟩
theorem n_Over (s t : Sl) (n m : Nat) (w : World) (hs : RN w s n) (ht : RN w t m) (hn : nl n ≤ 100000000) (hm : 0 < m) :
    Calls Tryz.prog 100 #[.slice s.A s.n s.c, .slice t.A t.n t.c] w fun e w' => ∃ q r : Sl, e = .returned (.tuple #[.slice q.A q.n q.c, .slice r.A r.n r.c]) ∧ RN w' q (n / m) ∧ Below w.heap.size w w' := by
  have l1 := nl_ws n
  refine (re_Over _ _ n m w hs ht hm (by omega)).mono ?_
  rintro e w' ⟨v, u, rfl, h, h2, hb⟩
  obtain ⟨q, rfl, hq⟩ := RN.of h
  obtain ⟨r, rfl, hr⟩ := RN.of h2
  exact ⟨q, r, rfl, hq, hb⟩
/-- Make at a slice, its sign told. -/
theorem r2_MakeS {b : Bool} {n : Nat} {z : Int} (h1 : (if b = true then -(n : Int) else n) = z) (W : World) (r : Sl) (hr : RN W r n) :
    Calls Tryz.prog 67 #[.bool b, .slice r.A r.n r.c] W fun e w' => e = .returned (zW (sgB z) r) ∧ Below W.heap.size W w' := by
  rw [← h1]; exact r2_Make b r n W hr


/-- What was stored into a row that begins with a bool leaves a number's words alone. -/
theorem RN.set {w : World} {s : Sl} {n g i : Nat} {v : Value} {x : Bool} (h : RN w s n) (hg : w.cell? ⟨g, 0, none⟩ = some (.bool x)) : RN (w.setCell ⟨g, i, none⟩ v) s n := by
  obtain ⟨A, c, e, h1, h2, h3⟩ := h
  refine ⟨A, c, e, h1, h2, ?_⟩
  rcases h3 with h3 | ⟨b, rfl, h3⟩
  · exact .inl h3
  · by_cases hl : 0 < (ws n).length
    · refine .inr ⟨b, rfl, fun j hj => ?_⟩
      have h0 := h3 0 hl
      have hne : b ≠ g := by
        rintro rfl
        rw [hg] at h0
        injection h0 with h0
        cases h0
      rw [← h3 j hj]
      exact World.cell?_setCell_other w ⟨g, i, none⟩ ⟨b, j, none⟩ v (by intro e; injection e with e1; exact hne e1.symm)
    · exact .inl (List.eq_nil_of_length_eq_zero (by omega))
theorem RN.store2 {w : World} {s : Sl} {n g : Nat} {a b : Bool} {y v : Value} {t : TypeId} (h : RN w s n) (hg : w.heap[g]? = some (.cells #[.bool a, y] t (0, 0))) :
    RN ((w.setCell ⟨g, 0, none⟩ (.bool b)).setCell ⟨g, 1, none⟩ v) s n := by
  refine (h.set (row2 hg).1).set (x := b) ?_
  exact World.cell?_setCell_same w ⟨g, 0, none⟩ _ (row2 hg).1


theorem cS2 {w : World} {g b i : Nat} {x y v : Value} (hne : b ≠ g) (h : w.cell? ⟨b, i, none⟩ = some v) : ((w.setCell ⟨g, 0, none⟩ x).setCell ⟨g, 1, none⟩ y).cell? ⟨b, i, none⟩ = some v := by
  rw [World.cell?_setCell_other _ ⟨g, 1, none⟩ ⟨b, i, none⟩ y (by intro e; injection e with e1; exact hne e1.symm), World.cell?_setCell_other _ ⟨g, 0, none⟩ ⟨b, i, none⟩ x (by intro e; injection e with e1; exact hne e1.symm)]; exact h
theorem cS3 {w : World} {g b i : Nat} {x y z v : Value} (hne : b ≠ g) (h : w.cell? ⟨b, i, none⟩ = some v) : (((w.setCell ⟨g, 0, none⟩ x).setCell ⟨g, 1, none⟩ y).setCell ⟨g, 2, none⟩ z).cell? ⟨b, i, none⟩ = some v := by
  rw [World.cell?_setCell_other _ ⟨g, 2, none⟩ ⟨b, i, none⟩ z (by intro e; injection e with e1; exact hne e1.symm)]; exact cS2 hne h


theorem sgB_mul (x y : Int) : (if (!(sgB x == sgB y)) = true then -((x.natAbs * y.natAbs : Nat) : Int) else (x.natAbs * y.natAbs : Nat)) = x * y := by
  unfold sgB
  rcases Int.lt_or_le x 0 with hx | hx <;> rcases Int.lt_or_le y 0 with hy | hy
  · rw [decide_eq_true hx, decide_eq_true hy]
    show ((x.natAbs * y.natAbs : Nat) : Int) = _
    rw [Int.natCast_mul, show (x.natAbs : Int) = -x by omega, show (y.natAbs : Int) = -y by omega]; grind
  · rw [decide_eq_true hx, decide_eq_false (show ¬ y < 0 by omega)]
    show -((x.natAbs * y.natAbs : Nat) : Int) = _
    rw [Int.natCast_mul, show (x.natAbs : Int) = -x by omega, show (y.natAbs : Int) = y by omega]; grind
  · rw [decide_eq_false (show ¬ x < 0 by omega), decide_eq_true hy]
    show -((x.natAbs * y.natAbs : Nat) : Int) = _
    rw [Int.natCast_mul, show (x.natAbs : Int) = x by omega, show (y.natAbs : Int) = -y by omega]; grind
  · rw [decide_eq_false (show ¬ x < 0 by omega), decide_eq_false (show ¬ y < 0 by omega)]
    show ((x.natAbs * y.natAbs : Nat) : Int) = _
    rw [Int.natCast_mul, show (x.natAbs : Int) = x by omega, show (y.natAbs : Int) = y by omega]

set_option maxRecDepth 100000 in
set_option maxHeartbeats 4000000 in
theorem r2_Times (x y : Int) (s t : Sl) (w : World) (hs : RN w s x.natAbs) (ht : RN w t y.natAbs) (hx : nl x.natAbs ≤ 100000000) (hy : nl y.natAbs ≤ 100000000) :
    Calls Tryz.prog 108 #[zW (sgB x) s, zW (sgB y) t] w fun e w' => ∃ r : Sl, e = .returned (zW (sgB (x * y)) r) ∧ RN w' r (x * y).natAbs ∧ Below w.heap.size w w' := by
  have HT := Lib.hid (fun W (hb : Below w.heap.size w W) => n_Times s t _ _ W (hs.below hb) (ht.below hb) hx hy)
  have HM := Lib.hid (r2_MakeS (sgB_mul x y))
  have hab : (x * y).natAbs = x.natAbs * y.natAbs := Int.natAbs_mul x y
  rw [hab]
  generalize x.natAbs * y.natAbs = k at *
  generalize sgB (x * y) = bz at *
  generalize sgB x = bx at *
  generalize sgB y = by_ at *
  clear hs ht hx hy hab
  go_enter Tryz.func108, Tryz.ntmps108
  go_wp2_with fail
  generalize hW : ((World.alloc w _).alloc _).alloc _ = W
  obtain ⟨hB, hsz, R2, R3, R4⟩ := A3 hW
  have R2 := Lib.hid R2
  have R3 := Lib.hid R3
  have R4 := Lib.hid R4
  clear hW hsz
  obtain ⟨R2c0, R2c1⟩ := rowc2 R2.out
  obtain ⟨R3c0, R3c1⟩ := rowc2 R3.out
  have hB0 := hB.drew
  first
  | go_region_held3 (fun w' => w'.cell? ⟨w.heap.size, 0, none⟩ = some (.bool bx) ∧ w'.cell? ⟨w.heap.size, 1, none⟩ = some (.slice s.A s.n s.c) ∧ w'.cell? ⟨w.heap.size + 1, 0, none⟩ = some (.bool by_) ∧ w'.cell? ⟨w.heap.size + 1, 1, none⟩ = some (.slice t.A t.n t.c)) (first | exact ⟨R2c0, R2c1, R3c0, R3c1⟩ | exact ⟨by with_reducible assumption, by with_reducible assumption, by with_reducible assumption, by with_reducible assumption⟩ | exact ⟨cS2 (by omega) (by with_reducible assumption), cS2 (by omega) (by with_reducible assumption), cS2 (by omega) (by with_reducible assumption), cS2 (by omega) (by with_reducible assumption)⟩ | go_keep)
      (first
        | (go_at_call 68; (with_reducible refine (HT.out _ hB0).mono ?_); rintro e wq0 ⟨r, rfl, hr, hb⟩; have hB1 := bstep hB0 hb; have R2 := Lib.hid (keep hb R2.out); have R3 := Lib.hid (keep hb R3.out); have R4 := Lib.hid (keep hb R4.out); obtain ⟨R2c0, R2c1⟩ := rowc2 R2.out; obtain ⟨R3c0, R3c1⟩ := rowc2 R3.out; have HR := Lib.hid hr; clear hb)
        | (go_at_call 67; (with_reducible refine (HM.out _ r HR.out).mono ?_); rintro e wq1 ⟨rfl, hb⟩; have hB2 := bstep hB1 hb; have R2 := Lib.hid (keep hb R2.out); have R3 := Lib.hid (keep hb R3.out); have R4 := Lib.hid (keep hb R4.out); obtain ⟨R2c0, R2c1⟩ := rowc2 R2.out; obtain ⟨R3c0, R3c1⟩ := rowc2 R3.out; obtain ⟨R4f0, R4f1, R4f2, R4f3⟩ := row2 R4.out; have HK := Lib.hid (HR.out.below hb); clear hb))
  | fail
  all_goals
    go_wp2_with fail
    exact bodyPost_ret (res_c rfl z_row rfl (store2 R4.out _ _) rfl) rfl ⟨_, rfl, HK.out.store2 R4.out, store2_below hB2 (by omega) _ _⟩


theorem sg_same {x y : Int} (h : sgB x = sgB y) : (if sgB x = true then -((x.natAbs + y.natAbs : Nat) : Int) else (x.natAbs + y.natAbs : Nat)) = x + y ∧ (x + y).natAbs = x.natAbs + y.natAbs := by
  unfold sgB at *
  by_cases hx : x < 0
  · have hy : y < 0 := by rw [decide_eq_true hx] at h; exact of_decide_eq_true h.symm
    rw [if_pos (decide_eq_true hx)]; omega
  · have hy : ¬ y < 0 := by rw [decide_eq_false hx] at h; exact of_decide_eq_false h.symm
    rw [if_neg (by rw [decide_eq_false hx]; decide)]; omega
theorem sg_more {x y : Int} (h : sgB y = !sgB x) (hl : y.natAbs ≤ x.natAbs) : (if sgB x = true then -((x.natAbs - y.natAbs : Nat) : Int) else (x.natAbs - y.natAbs : Nat)) = x + y ∧ (x + y).natAbs = x.natAbs - y.natAbs := by
  unfold sgB at *
  by_cases hx : x < 0
  · have hy : ¬ y < 0 := by rw [decide_eq_true hx] at h; exact of_decide_eq_false h
    rw [if_pos (decide_eq_true hx)]; omega
  · have hy : y < 0 := by rw [decide_eq_false hx] at h; exact of_decide_eq_true h
    rw [if_neg (by rw [decide_eq_false hx]; decide)]; omega
theorem sg_less {x y : Int} (h : sgB y = !sgB x) (hl : x.natAbs ≤ y.natAbs) : (if sgB y = true then -((y.natAbs - x.natAbs : Nat) : Int) else (y.natAbs - x.natAbs : Nat)) = x + y ∧ (x + y).natAbs = y.natAbs - x.natAbs := by
  have := sg_more (x := y) (y := x) (by rw [h, Bool.not_not]) hl
  rw [Int.add_comm x y]; exact this

set_option maxRecDepth 100000 in
set_option maxHeartbeats 4000000 in
theorem r2_Plus_same (x y : Int) (s t : Sl) (w : World) (hs : RN w s x.natAbs) (ht : RN w t y.natAbs) (hx : nl x.natAbs ≤ 100000000) (hy : nl y.natAbs ≤ 100000000) (h : sgB x = sgB y) :
    Calls Tryz.prog 66 #[zW (sgB x) s, zW (sgB y) t] w fun e w' => ∃ r : Sl, e = .returned (zW (sgB (x + y)) r) ∧ RN w' r (x + y).natAbs ∧ Below w.heap.size w w' := by
  have HT := Lib.hid (fun W (hb : Below w.heap.size w W) => n_Plus s t _ _ W (hs.below hb) (ht.below hb) hx hy)
  have hm := sg_same h
  have HM := Lib.hid (r2_MakeS hm.1)
  rw [hm.2, ← h]
  clear hm
  generalize x.natAbs + y.natAbs = k at *
  generalize sgB (x + y) = bz at *
  clear h
  generalize sgB x = bx at *
  clear hs ht hx hy
  go_enter Tryz.func66, Tryz.ntmps66
  go_wp2_with fail
  generalize hW : ((World.alloc w _).alloc _).alloc _ = W
  obtain ⟨hB, hsz, R2, R3, R4⟩ := A3 hW
  have R2 := Lib.hid R2
  have R3 := Lib.hid R3
  have R4 := Lib.hid R4
  clear hW hsz
  obtain ⟨R2c0, R2c1⟩ := rowc2 R2.out
  obtain ⟨R3c0, R3c1⟩ := rowc2 R3.out
  have hB0 := hB.drew
  first
  | go_region_held3 (fun w' => w'.cell? ⟨w.heap.size, 0, none⟩ = some (.bool bx) ∧ w'.cell? ⟨w.heap.size, 1, none⟩ = some (.slice s.A s.n s.c) ∧ w'.cell? ⟨w.heap.size + 1, 1, none⟩ = some (.slice t.A t.n t.c)) (first | exact ⟨R2c0, R2c1, R3c1⟩ | exact ⟨by with_reducible assumption, by with_reducible assumption, by with_reducible assumption⟩ | exact ⟨cS2 (by omega) (by with_reducible assumption), cS2 (by omega) (by with_reducible assumption), cS2 (by omega) (by with_reducible assumption)⟩ | go_keep)
      (first
        | (go_at_call 106; (with_reducible refine (HT.out _ hB0).mono ?_); rintro e wq0 ⟨r, rfl, hr, hb⟩; have hB1 := bstep hB0 hb; have R2 := Lib.hid (keep hb R2.out); have R3 := Lib.hid (keep hb R3.out); have R4 := Lib.hid (keep hb R4.out); obtain ⟨R2c0, R2c1⟩ := rowc2 R2.out; obtain ⟨R3c0, R3c1⟩ := rowc2 R3.out; have HR := Lib.hid hr; clear hb)
        | (go_at_call 67; (with_reducible refine (HM.out _ r HR.out).mono ?_); rintro e wq1 ⟨rfl, hb⟩; have hB2 := bstep hB1 hb; have R2 := Lib.hid (keep hb R2.out); have R3 := Lib.hid (keep hb R3.out); have R4 := Lib.hid (keep hb R4.out); obtain ⟨R2c0, R2c1⟩ := rowc2 R2.out; obtain ⟨R3c0, R3c1⟩ := rowc2 R3.out; obtain ⟨R4f0, R4f1, R4f2, R4f3⟩ := row2 R4.out; have HK := Lib.hid (HR.out.below hb); clear hb))
  | fail
  all_goals
    go_wp2_with fail
    exact bodyPost_ret (res_c rfl z_row rfl (store2 R4.out _ _) rfl) rfl ⟨_, rfl, HK.out.store2 R4.out, store2_below hB2 (by omega) _ _⟩


set_option maxRecDepth 100000 in
set_option maxHeartbeats 4000000 in
theorem r2_Plus_more (x y : Int) (s t : Sl) (w : World) (hs : RN w s x.natAbs) (ht : RN w t y.natAbs) (hx : nl x.natAbs ≤ 100000000) (_hy : nl y.natAbs ≤ 100000000) (h : sgB y = !sgB x) (hc : ¬ cmpI (x.natAbs : Nat) (y.natAbs : Nat) < 0) :
    Calls Tryz.prog 66 #[zW (sgB x) s, zW (sgB y) t] w fun e w' => ∃ r : Sl, e = .returned (zW (sgB (x + y)) r) ∧ RN w' r (x + y).natAbs ∧ Below w.heap.size w w' := by
  have hlt := hc
  rw [cmpI_neg] at hlt
  have HC := Lib.hid (fun W (hb : Below w.heap.size w W) => n_Cmp s t _ _ W (hs.below hb) (ht.below hb))
  have HT := Lib.hid (fun W (hb : Below w.heap.size w W) => n_Minus s t _ _ W (hs.below hb) (ht.below hb) hx (by omega))
  have hm := sg_more h (by omega)
  have HM := Lib.hid (r2_MakeS hm.1)
  rw [hm.2, h]
  try rw [h] at HM
  clear hm
  generalize x.natAbs - y.natAbs = k at *
  generalize sgB (x + y) = bz at *
  clear h hlt
  generalize sgB x = bx at *
  generalize cmpI (x.natAbs : Nat) (y.natAbs : Nat) = c at *
  clear hs ht hx _hy
  cases bx
  all_goals
    try simp only [Bool.not_true, Bool.not_false] at HM
    try simp only [Bool.not_true, Bool.not_false]
    go_enter Tryz.func66, Tryz.ntmps66
    go_wp2_with fail
    generalize hW : ((World.alloc w _).alloc _).alloc _ = W
    obtain ⟨hB, hsz, R2, R3, R4⟩ := A3 hW
    have R2 := Lib.hid R2
    have R3 := Lib.hid R3
    have R4 := Lib.hid R4
    clear hW hsz
    refine (HC.out _ hB).mono ?_
    rintro e w1 ⟨rfl, hb⟩
    replace hB := bstep hB hb
    have R2 := Lib.hid (keep hb R2.out)
    have R3 := Lib.hid (keep hb R3.out)
    have R4 := Lib.hid (keep hb R4.out)
    clear hb
    go_wp2_with fail
  · skip
    obtain ⟨R2c0, R2c1⟩ := rowc2 R2.out
    obtain ⟨R3c0, R3c1⟩ := rowc2 R3.out
    have hB0 := hB.drew
    first
    | go_region_held3 (fun w' => w'.cell? ⟨w.heap.size, 0, none⟩ = some (.bool false) ∧ w'.cell? ⟨w.heap.size, 1, none⟩ = some (.slice s.A s.n s.c) ∧ w'.cell? ⟨w.heap.size + 1, 1, none⟩ = some (.slice t.A t.n t.c)) (first | exact ⟨R2c0, R2c1, R3c1⟩ | exact ⟨by with_reducible assumption, by with_reducible assumption, by with_reducible assumption⟩ | exact ⟨cS2 (by omega) (by with_reducible assumption), cS2 (by omega) (by with_reducible assumption), cS2 (by omega) (by with_reducible assumption)⟩ | go_keep)
        (first
          | (go_at_call 107; (with_reducible refine (HT.out _ hB0).mono ?_); rintro e wq0 ⟨r, rfl, hr, hb⟩; have hB1 := bstep hB0 hb; have R2 := Lib.hid (keep hb R2.out); have R3 := Lib.hid (keep hb R3.out); have R4 := Lib.hid (keep hb R4.out); obtain ⟨R2c0, R2c1⟩ := rowc2 R2.out; obtain ⟨R3c0, R3c1⟩ := rowc2 R3.out; have HR := Lib.hid hr; clear hb)
          | (go_at_call 67; (with_reducible refine (HM.out _ r HR.out).mono ?_); rintro e wq1 ⟨rfl, hb⟩; have hB2 := bstep hB1 hb; have R2 := Lib.hid (keep hb R2.out); have R3 := Lib.hid (keep hb R3.out); have R4 := Lib.hid (keep hb R4.out); obtain ⟨R2c0, R2c1⟩ := rowc2 R2.out; obtain ⟨R3c0, R3c1⟩ := rowc2 R3.out; obtain ⟨R4f0, R4f1, R4f2, R4f3⟩ := row2 R4.out; have HK := Lib.hid (HR.out.below hb); clear hb))
    | fail
    all_goals
      go_wp2_with fail
      exact bodyPost_ret (res_c rfl z_row rfl (store2 R4.out _ _) rfl) rfl ⟨_, rfl, HK.out.store2 R4.out, store2_below hB2 (by omega) _ _⟩

  · skip
    obtain ⟨R2c0, R2c1⟩ := rowc2 R2.out
    obtain ⟨R3c0, R3c1⟩ := rowc2 R3.out
    have hB0 := hB.drew
    first
    | go_region_held3 (fun w' => w'.cell? ⟨w.heap.size, 0, none⟩ = some (.bool true) ∧ w'.cell? ⟨w.heap.size, 1, none⟩ = some (.slice s.A s.n s.c) ∧ w'.cell? ⟨w.heap.size + 1, 1, none⟩ = some (.slice t.A t.n t.c)) (first | exact ⟨R2c0, R2c1, R3c1⟩ | exact ⟨by with_reducible assumption, by with_reducible assumption, by with_reducible assumption⟩ | exact ⟨cS2 (by omega) (by with_reducible assumption), cS2 (by omega) (by with_reducible assumption), cS2 (by omega) (by with_reducible assumption)⟩ | go_keep)
        (first
          | (go_at_call 107; (with_reducible refine (HT.out _ hB0).mono ?_); rintro e wq0 ⟨r, rfl, hr, hb⟩; have hB1 := bstep hB0 hb; have R2 := Lib.hid (keep hb R2.out); have R3 := Lib.hid (keep hb R3.out); have R4 := Lib.hid (keep hb R4.out); obtain ⟨R2c0, R2c1⟩ := rowc2 R2.out; obtain ⟨R3c0, R3c1⟩ := rowc2 R3.out; have HR := Lib.hid hr; clear hb)
          | (go_at_call 67; (with_reducible refine (HM.out _ r HR.out).mono ?_); rintro e wq1 ⟨rfl, hb⟩; have hB2 := bstep hB1 hb; have R2 := Lib.hid (keep hb R2.out); have R3 := Lib.hid (keep hb R3.out); have R4 := Lib.hid (keep hb R4.out); obtain ⟨R2c0, R2c1⟩ := rowc2 R2.out; obtain ⟨R3c0, R3c1⟩ := rowc2 R3.out; obtain ⟨R4f0, R4f1, R4f2, R4f3⟩ := row2 R4.out; have HK := Lib.hid (HR.out.below hb); clear hb))
    | fail
    all_goals
      go_wp2_with fail
      exact bodyPost_ret (res_c rfl z_row rfl (store2 R4.out _ _) rfl) rfl ⟨_, rfl, HK.out.store2 R4.out, store2_below hB2 (by omega) _ _⟩


set_option maxRecDepth 100000 in
set_option maxHeartbeats 4000000 in
theorem r2_Plus_less (x y : Int) (s t : Sl) (w : World) (hs : RN w s x.natAbs) (ht : RN w t y.natAbs) (_hx : nl x.natAbs ≤ 100000000) (hy : nl y.natAbs ≤ 100000000) (h : sgB y = !sgB x) (hc : cmpI (x.natAbs : Nat) (y.natAbs : Nat) < 0) :
    Calls Tryz.prog 66 #[zW (sgB x) s, zW (sgB y) t] w fun e w' => ∃ r : Sl, e = .returned (zW (sgB (x + y)) r) ∧ RN w' r (x + y).natAbs ∧ Below w.heap.size w w' := by
  have hlt := hc
  rw [cmpI_neg] at hlt
  have HC := Lib.hid (fun W (hb : Below w.heap.size w W) => n_Cmp s t _ _ W (hs.below hb) (ht.below hb))
  have HT := Lib.hid (fun W (hb : Below w.heap.size w W) => n_Minus t s _ _ W (ht.below hb) (hs.below hb) hy (by omega))
  have hm := sg_less h (by omega)
  have HM := Lib.hid (r2_MakeS hm.1)
  rw [hm.2, h]
  try rw [h] at HM
  clear hm
  generalize y.natAbs - x.natAbs = k at *
  generalize sgB (x + y) = bz at *
  clear h hlt
  generalize sgB x = bx at *
  generalize cmpI (x.natAbs : Nat) (y.natAbs : Nat) = c at *
  clear hs ht _hx hy
  cases bx
  all_goals
    try simp only [Bool.not_true, Bool.not_false] at HM
    try simp only [Bool.not_true, Bool.not_false]
    go_enter Tryz.func66, Tryz.ntmps66
    go_wp2_with fail
    generalize hW : ((World.alloc w _).alloc _).alloc _ = W
    obtain ⟨hB, hsz, R2, R3, R4⟩ := A3 hW
    have R2 := Lib.hid R2
    have R3 := Lib.hid R3
    have R4 := Lib.hid R4
    clear hW hsz
    refine (HC.out _ hB).mono ?_
    rintro e w1 ⟨rfl, hb⟩
    replace hB := bstep hB hb
    have R2 := Lib.hid (keep hb R2.out)
    have R3 := Lib.hid (keep hb R3.out)
    have R4 := Lib.hid (keep hb R4.out)
    clear hb
    go_wp2_with fail
  · skip
    obtain ⟨R2c0, R2c1⟩ := rowc2 R2.out
    obtain ⟨R3c0, R3c1⟩ := rowc2 R3.out
    have hB0 := hB.drew
    first
    | go_region_held3 (fun w' => w'.cell? ⟨w.heap.size + 1, 0, none⟩ = some (.bool true) ∧ w'.cell? ⟨w.heap.size + 1, 1, none⟩ = some (.slice t.A t.n t.c) ∧ w'.cell? ⟨w.heap.size, 1, none⟩ = some (.slice s.A s.n s.c)) (first | exact ⟨R3c0, R3c1, R2c1⟩ | exact ⟨by with_reducible assumption, by with_reducible assumption, by with_reducible assumption⟩ | exact ⟨cS2 (by omega) (by with_reducible assumption), cS2 (by omega) (by with_reducible assumption), cS2 (by omega) (by with_reducible assumption)⟩ | go_keep)
        (first
          | (go_at_call 107; (with_reducible refine (HT.out _ hB0).mono ?_); rintro e wq0 ⟨r, rfl, hr, hb⟩; have hB1 := bstep hB0 hb; have R2 := Lib.hid (keep hb R2.out); have R3 := Lib.hid (keep hb R3.out); have R4 := Lib.hid (keep hb R4.out); obtain ⟨R2c0, R2c1⟩ := rowc2 R2.out; obtain ⟨R3c0, R3c1⟩ := rowc2 R3.out; have HR := Lib.hid hr; clear hb)
          | (go_at_call 67; (with_reducible refine (HM.out _ r HR.out).mono ?_); rintro e wq1 ⟨rfl, hb⟩; have hB2 := bstep hB1 hb; have R2 := Lib.hid (keep hb R2.out); have R3 := Lib.hid (keep hb R3.out); have R4 := Lib.hid (keep hb R4.out); obtain ⟨R2c0, R2c1⟩ := rowc2 R2.out; obtain ⟨R3c0, R3c1⟩ := rowc2 R3.out; obtain ⟨R4f0, R4f1, R4f2, R4f3⟩ := row2 R4.out; have HK := Lib.hid (HR.out.below hb); clear hb))
    | fail
    all_goals
      go_wp2_with fail
      exact bodyPost_ret (res_c rfl z_row rfl (store2 R4.out _ _) rfl) rfl ⟨_, rfl, HK.out.store2 R4.out, store2_below hB2 (by omega) _ _⟩

  · skip
    obtain ⟨R2c0, R2c1⟩ := rowc2 R2.out
    obtain ⟨R3c0, R3c1⟩ := rowc2 R3.out
    have hB0 := hB.drew
    first
    | go_region_held3 (fun w' => w'.cell? ⟨w.heap.size + 1, 0, none⟩ = some (.bool false) ∧ w'.cell? ⟨w.heap.size + 1, 1, none⟩ = some (.slice t.A t.n t.c) ∧ w'.cell? ⟨w.heap.size, 1, none⟩ = some (.slice s.A s.n s.c)) (first | exact ⟨R3c0, R3c1, R2c1⟩ | exact ⟨by with_reducible assumption, by with_reducible assumption, by with_reducible assumption⟩ | exact ⟨cS2 (by omega) (by with_reducible assumption), cS2 (by omega) (by with_reducible assumption), cS2 (by omega) (by with_reducible assumption)⟩ | go_keep)
        (first
          | (go_at_call 107; (with_reducible refine (HT.out _ hB0).mono ?_); rintro e wq0 ⟨r, rfl, hr, hb⟩; have hB1 := bstep hB0 hb; have R2 := Lib.hid (keep hb R2.out); have R3 := Lib.hid (keep hb R3.out); have R4 := Lib.hid (keep hb R4.out); obtain ⟨R2c0, R2c1⟩ := rowc2 R2.out; obtain ⟨R3c0, R3c1⟩ := rowc2 R3.out; have HR := Lib.hid hr; clear hb)
          | (go_at_call 67; (with_reducible refine (HM.out _ r HR.out).mono ?_); rintro e wq1 ⟨rfl, hb⟩; have hB2 := bstep hB1 hb; have R2 := Lib.hid (keep hb R2.out); have R3 := Lib.hid (keep hb R3.out); have R4 := Lib.hid (keep hb R4.out); obtain ⟨R2c0, R2c1⟩ := rowc2 R2.out; obtain ⟨R3c0, R3c1⟩ := rowc2 R3.out; obtain ⟨R4f0, R4f1, R4f2, R4f3⟩ := row2 R4.out; have HK := Lib.hid (HR.out.below hb); clear hb))
    | fail
    all_goals
      go_wp2_with fail
      exact bodyPost_ret (res_c rfl z_row rfl (store2 R4.out _ _) rfl) rfl ⟨_, rfl, HK.out.store2 R4.out, store2_below hB2 (by omega) _ _⟩


theorem r2_Plus (x y : Int) (s t : Sl) (w : World) (hs : RN w s x.natAbs) (ht : RN w t y.natAbs) (hx : nl x.natAbs ≤ 100000000) (hy : nl y.natAbs ≤ 100000000) :
    Calls Tryz.prog 66 #[zW (sgB x) s, zW (sgB y) t] w fun e w' => ∃ r : Sl, e = .returned (zW (sgB (x + y)) r) ∧ RN w' r (x + y).natAbs ∧ Below w.heap.size w w' := by
  by_cases h : sgB x = sgB y
  · exact r2_Plus_same x y s t w hs ht hx hy h
  · have h2 : sgB y = !sgB x := by revert h; cases sgB x <;> cases sgB y <;> decide
    by_cases hc : cmpI (x.natAbs : Nat) (y.natAbs : Nat) < 0
    · exact r2_Plus_less x y s t w hs ht hx hy h2 hc
    · exact r2_Plus_more x y s t w hs ht hx hy h2 hc


set_option maxRecDepth 100000 in
set_option maxHeartbeats 4000000 in
theorem r2_Minus (x y : Int) (s t : Sl) (w : World) (hs : RN w s x.natAbs) (ht : RN w t y.natAbs) (hx : nl x.natAbs ≤ 100000000) (hy : nl y.natAbs ≤ 100000000) :
    Calls Tryz.prog 131 #[zW (sgB x) s, zW (sgB y) t] w fun e w' => ∃ r : Sl, e = .returned (zW (sgB (x - y)) r) ∧ RN w' r (x - y).natAbs ∧ Below w.heap.size w w' := by
  have hn : (-y).natAbs = y.natAbs := Int.natAbs_neg y
  have HO := Lib.hid (fun W (hb : Below w.heap.size w W) => r2_Opposite y t W (ht.below hb))
  have hp := fun W (hb : Below w.heap.size w W) => r2_Plus x (-y) s t W (hs.below hb) (by rw [hn]; exact ht.below hb) hx (by rw [hn]; exact hy)
  rw [show x + -y = x - y by omega] at hp
  have HP := Lib.hid hp
  generalize sgB (x - y) = bz at *
  generalize (x - y).natAbs = k at *
  clear hs ht hx hy hp hn
  generalize sgB x = bx at *
  generalize sgB (-y) = bo at *
  generalize sgB y = by_ at *
  go_enter Tryz.func131, Tryz.ntmps131
  go_wp2_with fail
  generalize hW : ((World.alloc w _).alloc _).alloc _ = W
  obtain ⟨hB, hsz, R2, R3, R4⟩ := A3 hW
  have R2 := Lib.hid R2
  have R3 := Lib.hid R3
  have R4 := Lib.hid R4
  clear hW hsz
  obtain ⟨R2c0, R2c1⟩ := rowc2 R2.out
  obtain ⟨R3c0, R3c1⟩ := rowc2 R3.out
  have hB0 := hB.drew
  first
  | go_region_held3 (fun w' => w'.cell? ⟨w.heap.size, 0, none⟩ = some (.bool bx) ∧ w'.cell? ⟨w.heap.size, 1, none⟩ = some (.slice s.A s.n s.c) ∧ w'.cell? ⟨w.heap.size + 1, 0, none⟩ = some (.bool by_) ∧ w'.cell? ⟨w.heap.size + 1, 1, none⟩ = some (.slice t.A t.n t.c)) (first | exact ⟨R2c0, R2c1, R3c0, R3c1⟩ | exact ⟨by with_reducible assumption, by with_reducible assumption, by with_reducible assumption, by with_reducible assumption⟩ | exact ⟨cS2 (by omega) (by with_reducible assumption), cS2 (by omega) (by with_reducible assumption), cS2 (by omega) (by with_reducible assumption), cS2 (by omega) (by with_reducible assumption)⟩ | go_keep)
      (first
        | (go_at_call 71; (with_reducible refine (HO.out _ hB0).mono ?_); rintro e wq0 ⟨rfl, hb⟩; have hB1 := bstep hB0 hb; have R2 := Lib.hid (keep hb R2.out); have R3 := Lib.hid (keep hb R3.out); have R4 := Lib.hid (keep hb R4.out); obtain ⟨R2c0, R2c1⟩ := rowc2 R2.out; obtain ⟨R3c0, R3c1⟩ := rowc2 R3.out; clear hb)
        | (go_at_call 66; (with_reducible refine (HP.out _ hB1).mono ?_); rintro e wq1 ⟨r, rfl, hr, hb⟩; have hB2 := bstep hB1 hb; have R2 := Lib.hid (keep hb R2.out); have R3 := Lib.hid (keep hb R3.out); have R4 := Lib.hid (keep hb R4.out); obtain ⟨R2c0, R2c1⟩ := rowc2 R2.out; obtain ⟨R3c0, R3c1⟩ := rowc2 R3.out; obtain ⟨R4f0, R4f1, R4f2, R4f3⟩ := row2 R4.out; have HK := Lib.hid hr; clear hb))
  | fail
  all_goals
    go_wp2_with fail
    exact bodyPost_ret (res_c rfl z_row rfl (store2 R4.out _ _) rfl) rfl ⟨_, rfl, HK.out.store2 R4.out, store2_below hB2 (by omega) _ _⟩


theorem cmp_sub (x y : Int) : (x - y).sign = cmpI x y := by
  unfold cmpI
  rcases Int.lt_trichotomy x y with h | h | h
  · rw [if_pos h, Int.sign_eq_neg_one_of_neg (by omega)]
  · subst h; rw [if_neg (by omega), if_neg (by omega), Int.sub_self]; rfl
  · rw [if_neg (by omega), if_pos h, Int.sign_eq_one_of_pos (by omega)]
set_option maxRecDepth 100000 in
set_option maxHeartbeats 4000000 in
theorem r2_Cmp (x y : Int) (s t : Sl) (w : World) (hs : RN w s x.natAbs) (ht : RN w t y.natAbs) (hx : nl x.natAbs ≤ 100000000) (hy : nl y.natAbs ≤ 100000000) :
    Calls Tryz.prog 88 #[zW (sgB x) s, zW (sgB y) t] w fun e w' => e = .returned (.int .i64 (cmpI x y)) ∧ Below w.heap.size w w' := by
  have HP := Lib.hid (fun W (hb : Below w.heap.size w W) => r2_Minus x y s t W (hs.below hb) (ht.below hb) hx hy)
  have HS := Lib.hid (fun W (r : Sl) (hr : RN W r (x - y).natAbs) => r2_Signum (x - y) r W hr)
  rw [cmp_sub] at HS
  generalize cmpI x y = c at *
  generalize sgB (x - y) = bz at *
  generalize (x - y).natAbs = k at *
  clear hs ht hx hy
  generalize sgB x = bx at *
  generalize sgB y = by_ at *
  go_enter Tryz.func88, Tryz.ntmps88
  go_wp2_with fail
  generalize hW : (World.alloc w _).alloc _ = W
  obtain ⟨hB, hsz, R2, R3⟩ := A2 hW
  have R2 := Lib.hid R2
  have R3 := Lib.hid R3
  clear hW hsz
  refine (HP.out _ hB).mono ?_
  rintro e w1 ⟨r, rfl, hr, hb⟩
  have HR := Lib.hid hr
  replace hB := bstep hB hb
  clear hb hr
  go_wp2_with fail
  refine (HS.out _ r HR.out).mono ?_
  rintro e w2 ⟨rfl, hb⟩
  replace hB := bstep hB hb
  clear hb
  go_wp2_with fail
  go_ret
  exact ⟨rfl, hB⟩

end Go.Proofs.YthkkdepppjiaeaaGreatDoor
