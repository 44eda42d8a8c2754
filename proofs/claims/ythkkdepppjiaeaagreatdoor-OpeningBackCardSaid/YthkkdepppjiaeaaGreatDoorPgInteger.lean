/- A PART OF THE PROOF, JOINED OUT OF 4 TEXTS. -/
import Derived.Test.YthkkdepppjiaeaaGreatDoorPfText
import Derived.Lib.QuietBelow
import Derived.Laws.StructEq
import Derived.StillTailTactics
/- Walks of the program's package integer: the small functions. -/
namespace Go.Proofs.YthkkdepppjiaeaaGreatDoor
open Go.RowKit Go.Shelf Go.Sort

attribute [local go_sem] Oper.semAt_some

theorem num_guard : Tryz.prog.eqGuardType Tryz.prog.depth 224 = false := by kernel_rfl
theorem num_held : Tryz.prog.stoodInHeld 224 = false := by kernel_rfl
theorem num_eq (w : World) (a b : Bool) (s t : ByteArray) : (Op.equalIn 10000 224 (.agg #[.bool a, .string s]) (.agg #[.bool b, .string t])).run Tryz.prog w = .ok (a == b && (s.toList == t.toList)) w := by
  have hf : Tryz.prog.underlying 224 = some (.struct (Tryz.prog.fieldsOf 224)) := by
    unfold Program.fieldsOf
    rw [Tryz.underlying224]
  refine (run_equalIn_agg w 9999 _ _ _ hf num_held).trans ?_
  unfold Program.fieldsOf
  rw [Tryz.underlying224]
  simp [Op.eqFields, go_sem]
  by_cases h1 : a = b
  · by_cases h2 : s.toList = t.toList
    · simp [h1, h2]
    · simp [h1, h2]
  · simp [h1]
attribute [local go_sem] num_guard num_eq

theorem dval_48 : dval [48] = 0 := by
  have h := decDigits_dval 0
  rwa [show Lib.decDigits 0 = [48] by rw [Lib.decDigits]; rfl] at h

theorem nS_zero (n : Nat) : ((nS n).toList == [48]) = decide (n = 0) := by
  rw [ByteArray.toList_eq, nS_list]
  by_cases h : n = 0
  · subst h
    rw [show Lib.decDigits 0 = [48] by rw [Lib.decDigits]; rfl]; rfl
  · have : Lib.decDigits n ≠ [48] := by
      intro e
      have e2 := congrArg dval e
      rw [decDigits_dval] at e2
      exact h (e2.trans dval_48)
    rw [decide_eq_false h]
    exact beq_eq_false_iff_ne.2 this
theorem nS_0 : nS 0 = ⟨#[48]⟩ := by
  unfold nS; rw [show Lib.decDigits 0 = [48] by rw [Lib.decDigits]; rfl]

/-- An integer as the program keeps it. -/
def iV (z : Int) : Value := .agg #[.bool (decide (z < 0)), .string (nS z.natAbs)]
theorem iV_0 : iV 0 = .agg #[.bool false, .string ⟨#[48]⟩] := by
  show Value.agg #[.bool false, .string (nS 0)] = _
  rw [nS_0]
/-- Its text. -/
def iS (z : Int) : ByteArray := if z < 0 then ⟨(45 :: Lib.decDigits z.natAbs).toArray⟩ else nS z.natAbs
theorem iS_neg {z : Int} (h : z < 0) : (⟨#[45]⟩ : ByteArray) ++ nS z.natAbs = iS z := by
  unfold iS; rw [if_pos h]
  apply ByteArray.ext
  rw [ByteArray.data_append]
  simp [nS]
theorem iS_nonneg {z : Int} (h : 0 ≤ z) : nS z.natAbs = iS z := by
  unfold iS; rw [if_neg (by omega)]
theorem iV_neg (n : Nat) : Value.agg #[.bool (!decide (n = 0)), .string (nS n)] = iV (-(n : Int)) := by
  unfold iV
  rw [show (-(n : Int)).natAbs = n by omega]
  congr 4
  by_cases h : n = 0
  · subst h; rfl
  · rw [decide_eq_false h, decide_eq_true (show -(n : Int) < 0 by omega)]; rfl
theorem iV_pos (n : Nat) : Value.agg #[.bool false, .string (nS n)] = iV n := by
  unfold iV
  rw [Int.natAbs_natCast, decide_eq_false (show ¬ (n : Int) < 0 by omega)]

set_option maxHeartbeats 2000000 in
theorem in_with (neg : Bool) (n : Nat) (w : World) :
    Calls Tryz.prog 196 #[.bool neg, .string (nS n)] w fun e w' => e = .returned (iV (if neg then -(n : Int) else n)) ∧ Below w.heap.size w w' := by
  have h0 := nS_zero n
  go_enter Tryz.func196, Tryz.ntmps196
  go_wp2_with fail
  · rename_i h; subst h
    refine bodyPost_ret (v := iV (-(n : Int))) ?_ rfl ?_
    · rw [← iV_neg]; simp [results, Tryz.f196, go_sem]
    · exact ⟨rfl, (Below.refl _ _).alloc (Nat.le_refl _) _⟩
  · rename_i h
    simp only [Bool.not_eq_true] at h; subst h
    refine bodyPost_ret (v := iV n) ?_ rfl ?_
    · rw [← iV_pos]; simp [results, Tryz.f196, go_sem]
    · exact ⟨rfl, (Below.refl _ _).alloc (Nat.le_refl _) _⟩

set_option maxHeartbeats 2000000 in
theorem in_zero (w : World) :
    Calls Tryz.prog 194 #[] w fun e w' => e = .returned (iV 0) ∧ Below w.heap.size w w' := by
  go_enter Tryz.func194, Tryz.ntmps194
  go_wp2_with fail
  refine bodyPost_ret (v := iV 0) ?_ rfl ?_
  · rw [show iV 0 = iV ((0 : Nat) : Int) from rfl, ← iV_pos, nS_0]; simp [results, Tryz.f194, go_sem]
  · exact ⟨rfl, (Below.refl _ _).alloc (Nat.le_refl _) _⟩

set_option maxHeartbeats 2000000 in
theorem in_text (z : Int) (w : World) (hz : nl z.natAbs ≤ 1000000000) :
    Calls Tryz.prog 165 #[iV z] w fun e w' => e = .returned (.string (iS z)) ∧ Below w.heap.size w w' := by
  unfold iV
  have hs := nS_size z.natAbs
  have hn : ¬ 9223372036854775807 < 1 + (nS z.natAbs).size := by omega
  have h1 := Lib.hid (iS_neg (z := z))
  have h2 := Lib.hid (iS_nonneg (z := z))
  clear hs hz
  go_enter Tryz.func165, Tryz.ntmps165
  go_wp2_with fail
  · rename_i h
    rw [h1.out h]
    go_ret
    exact ⟨rfl, (Below.refl _ _).alloc (Nat.le_refl _) _⟩
  · rename_i h
    rw [h2.out h]
    go_ret
    exact ⟨rfl, (Below.refl _ _).alloc (Nat.le_refl _) _⟩

theorem store2 {w : World} {g : Nat} {a b : Value} {t : TypeId} (hg : w.heap[g]? = some (.cells #[a, b] t (0, 0))) (x y : Value) :
    ((w.setCell ⟨g, 0, none⟩ x).setCell ⟨g, 1, none⟩ y).heap[g]? = some (.cells #[x, y] t (0, 0)) := by
  rw [heap_setCell_same _ g 1 _ _ y (heap_setCell_same w g 0 _ _ x hg)]
  rfl
theorem store2_below {w0 w : World} {B g : Nat} (h : Below B w0 w) (hB : B ≤ g) (x y : Value) : Below B w0 ((w.setCell ⟨g, 0, none⟩ x).setCell ⟨g, 1, none⟩ y) :=
  (h.setCell (p := ⟨g, 0, none⟩) hB _).setCell (p := ⟨g, 1, none⟩) hB _
/-- A result that lies in a row of two. -/
theorem results_row2 {fn : Func} {p : Tmp} {tmps : Array Value} {w : World} {g : Nat} {a b : Value} (h : fn.results = #[.cell p 224]) (hp : tmps.getD p undef = .pointer (some ⟨g, 0, none⟩)) (hg : w.heap[g]? = some (.cells #[a, b] 224 (0, 0))) :
    (results fn tmps).run Tryz.prog w = .ok (.agg #[a, b]) w :=
  results_cell_row h tmps w g _ _ _ _ hp hg Tryz.underlying224 rfl (by kernel_rfl)

theorem opp_val (z : Int) : (if (!decide (z < 0)) = true then -(z.natAbs : Int) else z.natAbs) = -z := by
  by_cases h : z < 0
  · rw [decide_eq_true h]; simp; omega
  · rw [decide_eq_false h]; simp; omega

set_option maxHeartbeats 2000000 in
theorem in_opposite (z : Int) (w : World) :
    Calls Tryz.prog 167 #[iV z] w fun e w' => e = .returned (iV (-z)) ∧ Below w.heap.size w w' := by
  have hw := Lib.hid (fun w => in_with (!decide (z < 0)) z.natAbs w)
  have HV := Lib.hid (opp_val z)
  unfold iV
  go_enter Tryz.func167, Tryz.ntmps167
  go_wp2_with fail
  have hB0 : Below w.heap.size w ((w.alloc (Obj.cells #[Value.bool (decide (z < 0)), Value.string (nS z.natAbs)] 224)).alloc (Obj.cells #[Value.bool false, Value.string { data := #[] }] 224)) :=
    ((Below.refl _ w).alloc (Nat.le_refl _) _).alloc (by simp) _
  refine (hw.out _).mono ?_
  rintro e w1 ⟨rfl, hb1⟩
  rw [HV.out]
  unfold iV
  have hc1 : w1.heap[w.heap.size + 1]? = some (Obj.cells #[Value.bool false, Value.string { data := #[] }] 224) := by
    rw [hb1.block _ (by simp)]
    have := heap_alloc_new (w.alloc (Obj.cells #[Value.bool (decide (z < 0)), Value.string (nS z.natAbs)] 224)) (Obj.cells #[Value.bool false, Value.string { data := #[] }] 224)
    rwa [World.size_alloc] at this
  have hB1 : Below w.heap.size w w1 := hB0.trans (hb1.mono (by simp; omega))
  have c0 : w1.cell? ⟨w.heap.size + 1, 0, none⟩ = some (.bool false) := cell_of_row w1 _ 0 _ _ _ hc1
  have c1 : w1.cell? ⟨w.heap.size + 1, 1, none⟩ = some (.string { data := #[] }) := cell_of_row w1 _ 1 _ _ _ hc1
  have f0 : w1.frozen? ⟨w.heap.size + 1, 0, none⟩ = false := frozen_of_row w1 _ 0 _ _ hc1
  have f1 : w1.frozen? ⟨w.heap.size + 1, 1, none⟩ = false := frozen_of_row w1 _ 1 _ _ hc1
  clear hb1 hB0
  have HC := Lib.hid hc1
  clear hc1
  go_wp2_with fail
  have hz0 : decide (0 < z) = decide (-z < 0) := by congr 1; exact propext (by omega)
  rw [hz0, show z.natAbs = (-z).natAbs by omega]
  exact bodyPost_ret (results_row2 rfl rfl (store2 HC.out _ _)) rfl ⟨rfl, store2_below hB1 (by omega) _ _⟩

set_option maxHeartbeats 2000000 in
theorem in_sign_aux (neg zz : Bool) (s : ByteArray) (h0 : (s.toList == [48]) = zz) (r : Int) (hr : r = if neg = false ∧ zz = true then 0 else if neg then -1 else 1) (w : World) :
    Calls Tryz.prog 168 #[.agg #[.bool neg, .string s]] w fun e w' => e = .returned (.int .i64 r) ∧ Below w.heap.size w w' := by
  have HR := Lib.hid hr
  clear hr
  go_enter Tryz.func168, Tryz.ntmps168
  go_wp2_with fail
  obtain ⟨W, hW⟩ : ∃ W, W = (w.alloc (Obj.cells #[Value.bool neg, Value.string s] 224)) := ⟨_, rfl⟩
  rw [← hW]
  have hr : ∀ d os, (grow (redrawn W d) os).cell? ⟨w.heap.size, 0, none⟩ = some (.bool neg) := by
    intro d os
    refine cell_regrown ?_ d os
    rw [hW]; exact cell_of_row _ _ 0 _ _ _ (heap_alloc_new _ _)
  have hr2 : ∀ d os, (grow (redrawn W d) os).cell? ⟨w.heap.size, 1, none⟩ = some (.string s) := by
    intro d os
    refine cell_regrown ?_ d os
    rw [hW]; exact cell_of_row _ _ 1 _ _ _ (heap_alloc_new _ _)
  have hBW : Below w.heap.size w W := by rw [hW]; exact (Below.refl _ w).alloc (Nat.le_refl _) _
  clear hW
  have hz : ∀ d os, Calls Tryz.prog 194 #[] (grow (redrawn W d) os) fun e w'' => e = .returned (.agg #[.bool false, .string ⟨#[48]⟩]) ∧ ∃ p : Regrown, w'' = grow (redrawn W p.d) p.os := fun d os => Calls.regrown_of (by rw [← iV_0]; exact in_zero _)
  have HZ := Lib.hid hz
  clear hz
  cases neg <;> cases zz
  all_goals
    refine wp_region_quiet_below (by kernel_rfl) (by kernel_rfl) ?_
    repeat (quiet_step (exact HZ.out _ _))
    refine wpQuiet_nil ?_
    intro _ hw'
    obtain ⟨⟨dq, osq⟩, hw''⟩ := hw'
    subst hw''
    have hB2 := below_regrown W dq osq
    have hr' := hr dq osq
    clear hr hr2
    generalize grow (redrawn W dq) osq = W2 at *
    go_wp2_with fail
    rw [HR.out]
    go_ret
    exact ⟨by simp, hBW.trans (hB2.mono hBW.size)⟩

theorem in_sign (z : Int) (w : World) :
    Calls Tryz.prog 168 #[iV z] w fun e w' => e = .returned (.int .i64 z.sign) ∧ Below w.heap.size w w' := by
  refine in_sign_aux (decide (z < 0)) (decide (z.natAbs = 0)) _ (nS_zero _) z.sign ?_ w
  rcases Int.lt_trichotomy z 0 with h | h | h
  · rw [Int.sign_eq_neg_one_of_neg h]; simp [h]
  · subst h; simp
  · rw [Int.sign_eq_one_of_pos h]; simp; omega
end Go.Proofs.YthkkdepppjiaeaaGreatDoor

/- Walks of the program's package integer: sum, times, difference. -/
namespace Go.Proofs.YthkkdepppjiaeaaGreatDoor
open Go.RowKit Go.Shelf Go.Sort

attribute [local go_sem] Oper.semAt_some num_guard num_eq

/-- Two boxed numbers and a result's row, laid one behind the other. -/
abbrev W3 (w : World) (a b : Value) (c d : Value) : World :=
  ((w.alloc (.cells #[a, b] 224)).alloc (.cells #[c, d] 224)).alloc (.cells #[.bool false, .string { data := #[] }] 224)
theorem W3_size (w : World) (a b c d : Value) : (W3 w a b c d).heap.size = w.heap.size + 3 := by simp [W3]
theorem W3_below (w : World) (a b c d : Value) : Below w.heap.size w (W3 w a b c d) :=
  (((Below.refl _ w).alloc (Nat.le_refl _) _).alloc (by simp) _).alloc (by simp; omega) _
theorem W3_0 (w : World) (a b c d : Value) : (W3 w a b c d).heap[w.heap.size]? = some (.cells #[a, b] 224 (0, 0)) := by
  unfold W3
  rw [Below.heap_alloc _ _ _ (by simp; omega), Below.heap_alloc _ _ _ (by simp)]; exact heap_alloc_new _ _
theorem W3_1 (w : World) (a b c d : Value) : (W3 w a b c d).heap[w.heap.size + 1]? = some (.cells #[c, d] 224 (0, 0)) := by
  unfold W3
  rw [Below.heap_alloc _ _ _ (by simp)]
  have := heap_alloc_new (w.alloc (.cells #[a, b] 224)) (.cells #[c, d] 224)
  rwa [World.size_alloc] at this
theorem W3_2 (w : World) (a b c d : Value) : (W3 w a b c d).heap[w.heap.size + 2]? = some (.cells #[.bool false, .string { data := #[] }] 224 (0, 0)) := by
  unfold W3
  have := heap_alloc_new ((w.alloc (.cells #[a, b] 224)).alloc (.cells #[c, d] 224)) (.cells #[.bool false, .string { data := #[] }] 224)
  simpa using this

set_option maxHeartbeats 2000000 in
theorem in_sum (x y : Int) (w : World) (hE : Env w) (hx : nl x.natAbs ≤ 40000000) (hy : nl y.natAbs ≤ 40000000) :
    Calls Tryz.prog 197 #[iV x, iV y] w fun e w' => e = .returned (iV (if x < 0 then -((x.natAbs + y.natAbs : Nat) : Int) else (x.natAbs + y.natAbs : Nat))) ∧ Below w.heap.size w w' := by
  have hAdd := Lib.hid (fun w hE => na_Add x.natAbs y.natAbs w hE hx hy)
  obtain ⟨z, hz⟩ : ∃ z : Int, z = if x < 0 then -((x.natAbs + y.natAbs : Nat) : Int) else (x.natAbs + y.natAbs : Nat) := ⟨_, rfl⟩
  have hW0 := fun w => in_with (decide (x < 0)) (x.natAbs + y.natAbs) w
  simp only [decide_eq_true_eq] at hW0
  rw [← hz]
  rw [← hz] at hW0
  have hW := Lib.hid hW0
  clear hz hW0
  have HE := Lib.hid hE
  clear hE hx hy
  unfold iV
  go_enter Tryz.func197, Tryz.ntmps197
  go_wp2_with fail
  refine (hAdd.out _ (HE.out.below (W3_below w _ _ _ _))).mono ?_
  rintro e w1 ⟨rfl, hb1⟩
  have hs := W3_size w (.bool (decide (x < 0))) (.string (nS x.natAbs)) (.bool (decide (y < 0))) (.string (nS y.natAbs))
  have r0 := (hb1.block w.heap.size (by rw [hs]; omega)).trans (W3_0 w _ _ _ _)
  have r2 := (hb1.block (w.heap.size + 2) (by rw [hs]; omega)).trans (W3_2 w _ _ _ _)
  have c0 : w1.cell? ⟨w.heap.size, 0, none⟩ = some (.bool (decide (x < 0))) := cell_of_row w1 _ 0 _ _ _ r0
  have hB1 : Below w.heap.size w w1 := (W3_below w _ _ _ _).trans (hb1.mono (by rw [hs]; omega))
  have hs1 : w.heap.size + 2 < w1.heap.size := (Array.getElem?_eq_some_iff.1 r2).1
  have HR2 := Lib.hid r2
  clear r0 r2 hb1 hs
  go_wp2_with fail
  refine (hW.out _).mono ?_
  rintro e w2 ⟨rfl, hb2⟩
  have r3 := (hb2.block (w.heap.size + 2) hs1).trans HR2.out
  have c0 : w2.cell? ⟨w.heap.size + 2, 0, none⟩ = some (.bool false) := cell_of_row w2 _ 0 _ _ _ r3
  have c1 : w2.cell? ⟨w.heap.size + 2, 1, none⟩ = some (.string { data := #[] }) := cell_of_row w2 _ 1 _ _ _ r3
  have f0 : w2.frozen? ⟨w.heap.size + 2, 0, none⟩ = false := frozen_of_row w2 _ 0 _ _ r3
  have f1 : w2.frozen? ⟨w.heap.size + 2, 1, none⟩ = false := frozen_of_row w2 _ 1 _ _ r3
  have hB2 : Below w.heap.size w w2 := hB1.trans (hb2.mono (by omega))
  have HR3 := Lib.hid r3
  clear r3 hb2 HR2 hB1
  unfold iV
  go_wp2_with fail
  exact bodyPost_ret (results_row2 rfl rfl (store2 HR3.out _ _)) rfl ⟨rfl, store2_below hB2 (by omega) _ _⟩

theorem mul_sign (x y : Int) : (if ((decide (x < 0)) != (decide (y < 0))) = true then -((x.natAbs * y.natAbs : Nat) : Int) else (x.natAbs * y.natAbs : Nat)) = x * y := by
  rw [Int.natCast_mul]
  rcases Int.lt_or_le x 0 with h1 | h1 <;> rcases Int.lt_or_le y 0 with h2 | h2
  · rw [decide_eq_true h1, decide_eq_true h2, show (x.natAbs : Int) = -x by omega, show (y.natAbs : Int) = -y by omega]; simp; try grind
  · rw [decide_eq_true h1, decide_eq_false (by omega), show (x.natAbs : Int) = -x by omega, show (y.natAbs : Int) = y by omega]; simp; try grind
  · rw [decide_eq_false (by omega), decide_eq_true h2, show (x.natAbs : Int) = x by omega, show (y.natAbs : Int) = -y by omega]; simp; try grind
  · rw [decide_eq_false (by omega), decide_eq_false (by omega), show (x.natAbs : Int) = x by omega, show (y.natAbs : Int) = y by omega]; simp; try grind

set_option maxHeartbeats 2000000 in
theorem in_times (x y : Int) (w : World) (hE : Env w) (hx : nl x.natAbs ≤ 40000000) (hy : nl y.natAbs ≤ 40000000) :
    Calls Tryz.prog 164 #[iV x, iV y] w fun e w' => e = .returned (iV (x * y)) ∧ Below w.heap.size w w' := by
  have hAdd := Lib.hid (fun w hE => na_Mul x.natAbs y.natAbs w hE hx hy)
  have hW0 := fun w => in_with (decide (x < 0) != decide (y < 0)) (x.natAbs * y.natAbs) w
  rw [mul_sign] at hW0
  generalize x * y = z at *
  have hW := Lib.hid hW0
  clear hW0
  have HE := Lib.hid hE
  clear hE hx hy
  unfold iV
  go_enter Tryz.func164, Tryz.ntmps164
  go_wp2_with fail
  refine (hAdd.out _ (HE.out.below (W3_below w _ _ _ _))).mono ?_
  rintro e w1 ⟨rfl, hb1⟩
  have hs := W3_size w (.bool (decide (x < 0))) (.string (nS x.natAbs)) (.bool (decide (y < 0))) (.string (nS y.natAbs))
  have r0 := (hb1.block w.heap.size (by rw [hs]; omega)).trans (W3_0 w _ _ _ _)
  have r1 := (hb1.block (w.heap.size + 1) (by rw [hs]; omega)).trans (W3_1 w _ _ _ _)
  have r2 := (hb1.block (w.heap.size + 2) (by rw [hs]; omega)).trans (W3_2 w _ _ _ _)
  have c0 : w1.cell? ⟨w.heap.size, 0, none⟩ = some (.bool (decide (x < 0))) := cell_of_row w1 _ 0 _ _ _ r0
  have c1 : w1.cell? ⟨w.heap.size + 1, 0, none⟩ = some (.bool (decide (y < 0))) := cell_of_row w1 _ 0 _ _ _ r1
  have hB1 : Below w.heap.size w w1 := (W3_below w _ _ _ _).trans (hb1.mono (by rw [hs]; omega))
  have hs1 : w.heap.size + 2 < w1.heap.size := (Array.getElem?_eq_some_iff.1 r2).1
  have HR2 := Lib.hid r2
  clear r0 r1 r2 hb1 hs
  go_wp2_with fail
  refine (hW.out _).mono ?_
  rintro e w2 ⟨rfl, hb2⟩
  have r3 := (hb2.block (w.heap.size + 2) hs1).trans HR2.out
  have c0 : w2.cell? ⟨w.heap.size + 2, 0, none⟩ = some (.bool false) := cell_of_row w2 _ 0 _ _ _ r3
  have c1 : w2.cell? ⟨w.heap.size + 2, 1, none⟩ = some (.string { data := #[] }) := cell_of_row w2 _ 1 _ _ _ r3
  have f0 : w2.frozen? ⟨w.heap.size + 2, 0, none⟩ = false := frozen_of_row w2 _ 0 _ _ r3
  have f1 : w2.frozen? ⟨w.heap.size + 2, 1, none⟩ = false := frozen_of_row w2 _ 1 _ _ r3
  have hB2 : Below w.heap.size w w2 := hB1.trans (hb2.mono (by omega))
  have HR3 := Lib.hid r3
  clear r3 hb2 HR2 hB1
  unfold iV
  go_wp2_with fail
  exact bodyPost_ret (results_row2 rfl rfl (store2 HR3.out _ _)) rfl ⟨rfl, store2_below hB2 (by omega) _ _⟩
end Go.Proofs.YthkkdepppjiaeaaGreatDoor

/- Walks of the program's package integer: difference. -/
namespace Go.Proofs.YthkkdepppjiaeaaGreatDoor
open Go.RowKit Go.Shelf Go.Sort

attribute [local go_sem] Oper.semAt_some num_guard num_eq

set_option maxHeartbeats 2000000 in
theorem in_difference (x y : Int) (w : World) (hE : Env w) (hx : nl x.natAbs ≤ 40000000) (hy : nl y.natAbs ≤ 40000000) :
    Calls Tryz.prog 198 #[iV x, iV y] w fun e w' => e = .returned (iV (if x.natAbs < y.natAbs then (if y < 0 then -((y.natAbs - x.natAbs : Nat) : Int) else (y.natAbs - x.natAbs : Nat)) else (if x < 0 then -((x.natAbs - y.natAbs : Nat) : Int) else (x.natAbs - y.natAbs : Nat)))) ∧ Below w.heap.size w w' := by
  have hCmp := Lib.hid (fun w => na_Compare x.natAbs y.natAbs w hx hy)
  have HE := Lib.hid hE
  clear hE
  have hs := W3_size w (.bool (decide (x < 0))) (.string (nS x.natAbs)) (.bool (decide (y < 0))) (.string (nS y.natAbs))
  by_cases hlt : x.natAbs < y.natAbs
  · rw [if_pos hlt]
    obtain ⟨z, hz⟩ : ∃ z : Int, z = if y < 0 then -((y.natAbs - x.natAbs : Nat) : Int) else (y.natAbs - x.natAbs : Nat) := ⟨_, rfl⟩
    have hW0 := fun w => in_with (decide (y < 0)) (y.natAbs - x.natAbs) w
    simp only [decide_eq_true_eq] at hW0
    rw [← hz]
    rw [← hz] at hW0
    have hW := Lib.hid hW0
    have hSub := Lib.hid (fun w hE => na_Sub y.natAbs x.natAbs w hE hy hx (by omega))
    have hc : cmpI (x.natAbs : Int) y.natAbs < 0 := by rw [cmpI_neg]; omega
    clear hz hW0 hx hy hlt
    unfold iV
    go_enter Tryz.func198, Tryz.ntmps198
    go_wp2_with fail
    refine (hCmp.out _).mono ?_
    rintro e w1 ⟨rfl, hb1⟩
    have r0 := (hb1.block w.heap.size (by rw [hs]; omega)).trans (W3_0 w _ _ _ _)
    have r1 := (hb1.block (w.heap.size + 1) (by rw [hs]; omega)).trans (W3_1 w _ _ _ _)
    have r2 := (hb1.block (w.heap.size + 2) (by rw [hs]; omega)).trans (W3_2 w _ _ _ _)
    have c00 : w1.cell? ⟨w.heap.size, 0, none⟩ = some (.bool (decide (x < 0))) := cell_of_row w1 _ 0 _ _ _ r0
    have c01 : w1.cell? ⟨w.heap.size, 1, none⟩ = some (.string (nS x.natAbs)) := cell_of_row w1 _ 1 _ _ _ r0
    have c10 : w1.cell? ⟨w.heap.size + 1, 0, none⟩ = some (.bool (decide (y < 0))) := cell_of_row w1 _ 0 _ _ _ r1
    have c11 : w1.cell? ⟨w.heap.size + 1, 1, none⟩ = some (.string (nS y.natAbs)) := cell_of_row w1 _ 1 _ _ _ r1
    have f00 : w1.frozen? ⟨w.heap.size, 0, none⟩ = false := frozen_of_row w1 _ 0 _ _ r0
    have f01 : w1.frozen? ⟨w.heap.size, 1, none⟩ = false := frozen_of_row w1 _ 1 _ _ r0
    have f10 : w1.frozen? ⟨w.heap.size + 1, 0, none⟩ = false := frozen_of_row w1 _ 0 _ _ r1
    have f11 : w1.frozen? ⟨w.heap.size + 1, 1, none⟩ = false := frozen_of_row w1 _ 1 _ _ r1
    have hB1 : Below w.heap.size w w1 := (W3_below w _ _ _ _).trans (hb1.mono (by rw [hs]; omega))
    have hs1 : w.heap.size + 2 < w1.heap.size := (Array.getElem?_eq_some_iff.1 r2).1
    have HR0 := Lib.hid r0
    have HR1 := Lib.hid r1
    have HR2 := Lib.hid r2
    clear r0 r1 r2 hb1 hs
    go_wp2_with fail
    clear c00 c01 c10 c11 f00 f01 f10 f11
    have v0 := store2 HR0.out (.bool (decide (y < 0))) (.string (nS y.natAbs))
    have v2 := HR2.out
    rw [← heap_setCell_other w1 ⟨w.heap.size, 0, none⟩ _ (.bool (decide (y < 0))) (by show w.heap.size + 2 ≠ w.heap.size; omega), ← heap_setCell_other _ ⟨w.heap.size, 1, none⟩ _ (.string (nS y.natAbs)) (by show w.heap.size + 2 ≠ w.heap.size; omega)] at v2
    have hBV := store2_below hB1 (Nat.le_refl _) (.bool (decide (y < 0))) (.string (nS y.natAbs))
    generalize (w1.setCell ⟨w.heap.size, 0, none⟩ (.bool (decide (y < 0)))).setCell ⟨w.heap.size, 1, none⟩ (.string (nS y.natAbs)) = V at *
    rw [← heap_setCell_other V ⟨w.heap.size + 1, 0, none⟩ _ (.bool (decide (x < 0))) (by show w.heap.size + 2 ≠ w.heap.size + 1; omega), ← heap_setCell_other _ ⟨w.heap.size + 1, 1, none⟩ _ (.string (nS x.natAbs)) (by show w.heap.size + 2 ≠ w.heap.size + 1; omega)] at v2
    rw [← heap_setCell_other V ⟨w.heap.size + 1, 0, none⟩ _ (.bool (decide (x < 0))) (by show w.heap.size ≠ w.heap.size + 1; omega), ← heap_setCell_other _ ⟨w.heap.size + 1, 1, none⟩ _ (.string (nS x.natAbs)) (by show w.heap.size ≠ w.heap.size + 1; omega)] at v0
    replace hBV := store2_below (g := w.heap.size + 1) hBV (by omega) (.bool (decide (x < 0))) (.string (nS x.natAbs))
    generalize (V.setCell ⟨w.heap.size + 1, 0, none⟩ (.bool (decide (x < 0)))).setCell ⟨w.heap.size + 1, 1, none⟩ (.string (nS x.natAbs)) = V2 at *
    have hsV : w.heap.size + 2 < V2.heap.size := (Array.getElem?_eq_some_iff.1 v2).1
    have HV0 := Lib.hid v0
    have HV2 := Lib.hid v2
    clear v0 v2 HR0 HR1 HR2 hB1 hs1
    refine (hSub.out _ (HE.out.below hBV)).mono ?_
    rintro e w2 ⟨rfl, hb2⟩
    have r0 := (hb2.block w.heap.size (by omega)).trans HV0.out
    have r2 := (hb2.block (w.heap.size + 2) hsV).trans HV2.out
    have c0 : w2.cell? ⟨w.heap.size, 0, none⟩ = some (.bool (decide (y < 0))) := cell_of_row w2 _ 0 _ _ _ r0
    have hB2 : Below w.heap.size w w2 := hBV.trans (hb2.mono (by omega))
    have hs2 : w.heap.size + 2 < w2.heap.size := (Array.getElem?_eq_some_iff.1 r2).1
    have HS2 := Lib.hid r2
    clear r0 r2 hb2 HV0 HV2 hBV hsV
    go_wp2_with fail
    refine (hW.out _).mono ?_
    rintro e w3 ⟨rfl, hb3⟩
    have r3 := (hb3.block (w.heap.size + 2) hs2).trans HS2.out
    have c0 : w3.cell? ⟨w.heap.size + 2, 0, none⟩ = some (.bool false) := cell_of_row w3 _ 0 _ _ _ r3
    have c1 : w3.cell? ⟨w.heap.size + 2, 1, none⟩ = some (.string { data := #[] }) := cell_of_row w3 _ 1 _ _ _ r3
    have f0 : w3.frozen? ⟨w.heap.size + 2, 0, none⟩ = false := frozen_of_row w3 _ 0 _ _ r3
    have f1 : w3.frozen? ⟨w.heap.size + 2, 1, none⟩ = false := frozen_of_row w3 _ 1 _ _ r3
    have hB3 : Below w.heap.size w w3 := hB2.trans (hb3.mono (by omega))
    have HR3 := Lib.hid r3
    clear r3 hb3 HS2 hB2
    unfold iV
    go_wp2_with fail
    exact bodyPost_ret (results_row2 rfl rfl (store2 HR3.out _ _)) rfl ⟨rfl, store2_below hB3 (by omega) _ _⟩
  · rw [if_neg hlt]
    obtain ⟨z, hz⟩ : ∃ z : Int, z = if x < 0 then -((x.natAbs - y.natAbs : Nat) : Int) else (x.natAbs - y.natAbs : Nat) := ⟨_, rfl⟩
    have hW0 := fun w => in_with (decide (x < 0)) (x.natAbs - y.natAbs) w
    simp only [decide_eq_true_eq] at hW0
    rw [← hz]
    rw [← hz] at hW0
    have hW := Lib.hid hW0
    have hSub := Lib.hid (fun w hE => na_Sub x.natAbs y.natAbs w hE hx hy (by omega))
    have hc : 0 ≤ cmpI (x.natAbs : Int) y.natAbs := by have := @cmpI_neg x.natAbs y.natAbs; omega
    clear hz hW0 hx hy hlt
    unfold iV
    go_enter Tryz.func198, Tryz.ntmps198
    go_wp2_with fail
    refine (hCmp.out _).mono ?_
    rintro e w1 ⟨rfl, hb1⟩
    have r0 := (hb1.block w.heap.size (by rw [hs]; omega)).trans (W3_0 w _ _ _ _)
    have r1 := (hb1.block (w.heap.size + 1) (by rw [hs]; omega)).trans (W3_1 w _ _ _ _)
    have r2 := (hb1.block (w.heap.size + 2) (by rw [hs]; omega)).trans (W3_2 w _ _ _ _)
    have c0 : w1.cell? ⟨w.heap.size, 1, none⟩ = some (.string (nS x.natAbs)) := cell_of_row w1 _ 1 _ _ _ r0
    have c1 : w1.cell? ⟨w.heap.size + 1, 1, none⟩ = some (.string (nS y.natAbs)) := cell_of_row w1 _ 1 _ _ _ r1
    have hB1 : Below w.heap.size w w1 := (W3_below w _ _ _ _).trans (hb1.mono (by rw [hs]; omega))
    have hs1 : w.heap.size + 2 < w1.heap.size := (Array.getElem?_eq_some_iff.1 r2).1
    have HR0 := Lib.hid r0
    have HR2 := Lib.hid r2
    clear r0 r1 r2 hb1 hs
    go_wp2_with fail
    refine (hSub.out _ (HE.out.below hB1)).mono ?_
    rintro e w2 ⟨rfl, hb2⟩
    have r0 := (hb2.block w.heap.size (by omega)).trans HR0.out
    have r2 := (hb2.block (w.heap.size + 2) hs1).trans HR2.out
    have c0 : w2.cell? ⟨w.heap.size, 0, none⟩ = some (.bool (decide (x < 0))) := cell_of_row w2 _ 0 _ _ _ r0
    have hB2 : Below w.heap.size w w2 := hB1.trans (hb2.mono (by omega))
    have hs2 : w.heap.size + 2 < w2.heap.size := (Array.getElem?_eq_some_iff.1 r2).1
    have HS2 := Lib.hid r2
    clear r0 r2 hb2 HR0 HR2 hB1 hs1
    go_wp2_with fail
    refine (hW.out _).mono ?_
    rintro e w3 ⟨rfl, hb3⟩
    have r3 := (hb3.block (w.heap.size + 2) hs2).trans HS2.out
    have c0 : w3.cell? ⟨w.heap.size + 2, 0, none⟩ = some (.bool false) := cell_of_row w3 _ 0 _ _ _ r3
    have c1 : w3.cell? ⟨w.heap.size + 2, 1, none⟩ = some (.string { data := #[] }) := cell_of_row w3 _ 1 _ _ _ r3
    have f0 : w3.frozen? ⟨w.heap.size + 2, 0, none⟩ = false := frozen_of_row w3 _ 0 _ _ r3
    have f1 : w3.frozen? ⟨w.heap.size + 2, 1, none⟩ = false := frozen_of_row w3 _ 1 _ _ r3
    have hB3 : Below w.heap.size w w3 := hB2.trans (hb3.mono (by omega))
    have HR3 := Lib.hid r3
    clear r3 hb3 HS2 hB2
    unfold iV
    go_wp2_with fail
    exact bodyPost_ret (results_row2 rfl rfl (store2 HR3.out _ _)) rfl ⟨rfl, store2_below hB3 (by omega) _ _⟩
end Go.Proofs.YthkkdepppjiaeaaGreatDoor

/- Walks of the program's package integer: bit, plus. -/
namespace Go.Proofs.YthkkdepppjiaeaaGreatDoor
open Go.RowKit Go.Shelf Go.Sort

attribute [local go_sem] Oper.semAt_some num_guard num_eq

theorem run_store_func (P : Program) (w : World) (a : Addr) (m : Mode) (f : Fn) (xs ys : Array Value) : (store a (.func f xs ys) m).run P w = stored P w a (.func f xs ys) m := run_store P w a _ m rfl
attribute [local go_sem] run_store_func

theorem in_bit (b : Bool) (w : World) :
    Calls Tryz.prog 199 #[.bool b] w fun e w' => e = .returned (.int .i64 (if b then 1 else 0)) ∧ w' = w := by
  cases b
  all_goals
    go_enter Tryz.func199, Tryz.ntmps199
    go_wp2
    go_ret
    exact ⟨rfl, rfl⟩

/-- What plus returns. -/
theorem plus_val (x y : Int) : (if (decide (x < 0)) = (decide (y < 0)) then (if x < 0 then -((x.natAbs + y.natAbs : Nat) : Int) else (x.natAbs + y.natAbs : Nat)) else
    (if x.natAbs < y.natAbs then (if y < 0 then -((y.natAbs - x.natAbs : Nat) : Int) else (y.natAbs - x.natAbs : Nat)) else (if x < 0 then -((x.natAbs - y.natAbs : Nat) : Int) else (x.natAbs - y.natAbs : Nat)))) = x + y := by
  have ex : (x.natAbs : Int) = if x < 0 then -x else x := by split <;> omega
  have ey : (y.natAbs : Int) = if y < 0 then -y else y := by split <;> omega
  by_cases h1 : x < 0 <;> by_cases h2 : y < 0 <;> simp only [h1, h2, if_pos, if_neg, decide_true, decide_false, Bool.true_eq_false, Bool.false_eq_true, not_false_eq_true] at ex ey ⊢
  · omega
  · by_cases h3 : x.natAbs < y.natAbs
    · rw [if_pos h3]; omega
    · rw [if_neg h3]; omega
  · by_cases h3 : x.natAbs < y.natAbs
    · rw [if_pos h3]; omega
    · rw [if_neg h3]; omega
  · omega

theorem drew_row {W : World} {g : Nat} {o : Obj} (h : W.heap[g]? = some o) : ({ W with drawn := W.drawn + 1 } : World).heap[g]? = some o := h
theorem drew_below {w W : World} {B : Nat} (h : Below B w W) : Below B w ({ W with drawn := W.drawn + 1 } : World) := ⟨h.os, h.tape, h.output, h.size, h.block⟩

set_option maxRecDepth 100000 in
set_option maxHeartbeats 4000000 in
theorem in_plus_aux (a b : Bool) (s t : ByteArray) (r : Bool) (rs : ByteArray) (w : World)
    (hsum : a = b → ∀ W, Below w.heap.size w W → Calls Tryz.prog 197 #[.agg #[.bool a, .string s], .agg #[.bool b, .string t]] W fun e w' => e = .returned (.agg #[.bool r, .string rs]) ∧ Below W.heap.size W w')
    (hdif : a ≠ b → ∀ W, Below w.heap.size w W → Calls Tryz.prog 198 #[.agg #[.bool a, .string s], .agg #[.bool b, .string t]] W fun e w' => e = .returned (.agg #[.bool r, .string rs]) ∧ Below W.heap.size W w') :
    Calls Tryz.prog 166 #[.agg #[.bool a, .string s], .agg #[.bool b, .string t]] w fun e w' => e = .returned (.agg #[.bool r, .string rs]) ∧ Below w.heap.size w w' := by
  have HS := Lib.hid hsum
  have HD := Lib.hid hdif
  clear hsum hdif
  go_enter Tryz.func166, Tryz.ntmps166
  go_upto_region 1 with fail
  have hs := W3_size w (.bool a) (.string s) (.bool b) (.string t)
  have r0 := W3_0 w (.bool a) (.string s) (.bool b) (.string t)
  have r1 := W3_1 w (.bool a) (.string s) (.bool b) (.string t)
  have r2 := W3_2 w (.bool a) (.string s) (.bool b) (.string t)
  have hB := W3_below w (.bool a) (.string s) (.bool b) (.string t)
  unfold W3 at hs r0 r1 r2 hB
  generalize ((w.alloc (Obj.cells #[Value.bool a, Value.string s] 224)).alloc
          (Obj.cells #[Value.bool b, Value.string t] 224)).alloc
      (Obj.cells #[Value.bool false, Value.string { data := #[] }] 224) = W at *
  have HR0 := Lib.hid r0
  have HR1 := Lib.hid r1
  have HR2 := Lib.hid r2
  clear r0 r1 r2
  go_upto_region 2 with fail
  generalize hV : W.alloc _ = V
  have q0 := Lib.hid ((congrArg (fun X : World => X.heap[w.heap.size]?) hV.symm).trans ((Below.heap_alloc W _ (w.heap.size) (by omega)).trans HR0.out))
  have q1 := Lib.hid ((congrArg (fun X : World => X.heap[w.heap.size + 1]?) hV.symm).trans ((Below.heap_alloc W _ (w.heap.size + 1) (by omega)).trans HR1.out))
  have q2 := Lib.hid ((congrArg (fun X : World => X.heap[w.heap.size + 2]?) hV.symm).trans ((Below.heap_alloc W _ (w.heap.size + 2) (by omega)).trans HR2.out))
  have q3' := (congrArg (fun X : World => X.heap[W.heap.size]?) hV.symm).trans (heap_alloc_new W _)
  simp only [hs] at q3'
  have q3 := Lib.hid q3'
  clear q3'
  have hBV : Below w.heap.size w V := by rw [← hV]; exact hB.alloc (by omega) _
  clear hV HR0 HR1 HR2 hs hB
  refine wp_region_still_tail 11 (by kernel_rfl) (by kernel_rfl) ?_
  have hBD := drew_below hBV
  have q0 := Lib.hid (drew_row q0.out)
  have q1 := Lib.hid (drew_row q1.out)
  have q2 := Lib.hid (drew_row q2.out)
  have q3 := Lib.hid (drew_row q3.out)
  generalize ({ V with drawn := V.drawn + 1 } : World) = D at *
  have c00 := cell_of_row D _ 0 _ _ _ q0.out
  have c01 := cell_of_row D _ 1 _ _ _ q0.out
  have c10 := cell_of_row D _ 0 _ _ _ q1.out
  have c11 := cell_of_row D _ 1 _ _ _ q1.out
  have d0 := cell_of_row D _ 0 _ _ _ q3.out
  have d1 := cell_of_row D _ 1 _ _ _ q3.out
  have d2 := cell_of_row D _ 2 _ _ _ q3.out
  have d3 := cell_of_row D _ 3 _ _ _ q3.out
  clear hBV
  simp only [List.take_succ_cons, List.take_zero, List.drop_succ_cons, List.drop_zero]
  cases a <;> cases b
  all_goals
    repeat (first | still_step | still_call (in_bit _ _))
    refine wpStill_nil ?_
    clear c00 c01 c10 c11 d0 d1 d2 d3
    go_wp2_with fail
    first | refine (HS.out trivial D hBD).mono ?_ | refine (HD.out (by decide) D hBD).mono ?_
    rintro e w2 ⟨rfl, hb2⟩
    have r3 := (hb2.block (w.heap.size + 2) (Array.getElem?_eq_some_iff.1 q2.out).1).trans q2.out
    have c0 : w2.cell? ⟨w.heap.size + 2, 0, none⟩ = some (.bool false) := cell_of_row w2 _ 0 _ _ _ r3
    have c1 : w2.cell? ⟨w.heap.size + 2, 1, none⟩ = some (.string { data := #[] }) := cell_of_row w2 _ 1 _ _ _ r3
    have f0 : w2.frozen? ⟨w.heap.size + 2, 0, none⟩ = false := frozen_of_row w2 _ 0 _ _ r3
    have f1 : w2.frozen? ⟨w.heap.size + 2, 1, none⟩ = false := frozen_of_row w2 _ 1 _ _ r3
    have hB2 : Below w.heap.size w w2 := hBD.trans (hb2.mono hBD.size)
    have HR3 := Lib.hid r3
    clear r3 hb2
    go_wp2_with fail
    exact bodyPost_ret (results_row2 rfl rfl (store2 HR3.out _ _)) rfl ⟨rfl, store2_below hB2 (by omega) _ _⟩

theorem in_plus (x y : Int) (w : World) (hE : Env w) (hx : nl x.natAbs ≤ 40000000) (hy : nl y.natAbs ≤ 40000000) :
    Calls Tryz.prog 166 #[iV x, iV y] w fun e w' => e = .returned (iV (x + y)) ∧ Below w.heap.size w w' := by
  have hv := plus_val x y
  refine in_plus_aux (decide (x < 0)) (decide (y < 0)) (nS x.natAbs) (nS y.natAbs) (decide (x + y < 0)) (nS (x + y).natAbs) w (fun he W hb => ?_) (fun he W hb => ?_)
  · rw [if_pos he] at hv
    have := in_sum x y W (hE.below hb) hx hy
    rw [hv] at this
    exact this
  · rw [if_neg he] at hv
    have := in_difference x y W (hE.below hb) hx hy
    rw [hv] at this
    exact this
end Go.Proofs.YthkkdepppjiaeaaGreatDoor
