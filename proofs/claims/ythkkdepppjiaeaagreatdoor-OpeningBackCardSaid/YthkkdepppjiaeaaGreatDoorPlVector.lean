/- A PART OF THE PROOF, JOINED OUT OF 5 TEXTS. -/
import Derived.Test.YthkkdepppjiaeaaGreatDoorPkVector
/- Walks of the program's package vector: cross. -/
namespace Go.Proofs.YthkkdepppjiaeaaGreatDoor
open Go.RowKit Go.Shelf Go.Sort

attribute [local go_sem] Oper.semAt_some

end Go.Proofs.YthkkdepppjiaeaaGreatDoor

/- Walks of the program's package vector: apply, Add, Sub, Cross, Scale, Dot, Det at valid vectors. -/
namespace Go.Proofs.YthkkdepppjiaeaaGreatDoor
open Go.RowKit Go.Shelf Go.Sort

attribute [local go_sem] Oper.semAt_some

theorem vecsAt2 {W : World} {N : Nat} {t : TypeId} {a0 a1 a2 b0 b1 b2 : ByteArray} (h : W.heap[N]? = some (.cells #[.string a0, .string a1, .string a2, .string b0, .string b1, .string b2] t (0, 0))) :
    VecsAt W N 0 2 (fun i => if i = 0 then (a0, a1, a2) else (b0, b1, b2)) := by
  intro i hi
  match i, hi with
  | 0, _ => exact ⟨cell_of_row W _ 0 _ _ _ h, cell_of_row W _ 1 _ _ _ h, cell_of_row W _ 2 _ _ _ h⟩
  | 1, _ => exact ⟨cell_of_row W _ 3 _ _ _ h, cell_of_row W _ 4 _ _ _ h, cell_of_row W _ 5 _ _ _ h⟩
/-- The three texts are of at most ten million bytes. -/
def ShV (s : ByteArray × ByteArray × ByteArray) : Prop := s.1.size ≤ 10000000 ∧ s.2.1.size ≤ 10000000 ∧ s.2.2.size ≤ 10000000
noncomputable def chk2 (s t : ByteArray × ByteArray × ByteArray) : Int := if vvB s = true ∧ vvB t = true then 0 else 1
theorem ve_check2 {a0 a1 a2 b0 b1 b2 : ByteArray} (ha : ShV (a0, a1, a2)) (hb : ShV (b0, b1, b2)) {N : Nat} {t : TypeId} (W : World) (hE : Env W) (h : W.heap[N]? = some (.cells #[.string a0, .string a1, .string a2, .string b0, .string b1, .string b2] t (0, 0))) :
    Calls Tryz.prog 123 #[.slice (some ⟨N, 0, none⟩) 2 2] W fun e w' => e = .returned (.int .i64 (chk2 (a0, a1, a2) (b0, b1, b2))) ∧ Below W.heap.size W w' := by
  refine ve_check N 0 2 2 _ _ W hE (by decide) (vecsAt2 h) ?_ ?_ ?_
  · intro i hi
    match i, hi with
    | 0, _ => exact ha
    | 1, _ => exact hb
  · intro hv
    unfold chk2; rw [if_pos ⟨hv 0 (by decide), hv 1 (by decide)⟩]
  · rintro ⟨i, hi, hv⟩
    unfold chk2; rw [if_neg]
    rintro ⟨h1, h2⟩
    match i, hi with
    | 0, _ => rw [if_pos rfl] at hv; rw [hv] at h1; cases h1
    | 1, _ => rw [if_neg (by decide)] at hv; rw [hv] at h2; cases h2
theorem rs_size (x : Rat) : (rs x).size ≤ nl x.num.natAbs + nl x.den + 2 := by
  have s1 := iS_size x.num
  have s2 := nS_size x.den
  by_cases h : x.den = 1
  · rw [rs_one h]; omega
  · rw [rs_frac h, ByteArray.size_append, ByteArray.size_append]
    have : (⟨#[47]⟩ : ByteArray).size = 1 := rfl
    omega
theorem sh_of {k : Nat} {a : V3} (h : SzV k a) (hk : k ≤ 4000000) : ShV (rs a.x, rs a.y, rs a.z) := by
  obtain ⟨⟨h1, h2⟩, ⟨h3, h4⟩, ⟨h5, h6⟩⟩ := h
  have e1 := rs_size a.x
  have e2 := rs_size a.y
  have e3 := rs_size a.z
  exact ⟨by show (rs a.x).size ≤ _; omega, by show (rs a.y).size ≤ _; omega, by show (rs a.z).size ≤ _; omega⟩
theorem vvB_rs (a : V3) : vvB (rs a.x, rs a.y, rs a.z) = true := by
  unfold vvB; rw [rvB_rs, rvB_rs, rvB_rs]; rfl
theorem chk2_rs (a b : V3) : chk2 (rs a.x, rs a.y, rs a.z) (rs b.x, rs b.y, rs b.z) = 0 := by
  unfold chk2; rw [if_pos ⟨vvB_rs a, vvB_rs b⟩]
end Go.Proofs.YthkkdepppjiaeaaGreatDoor

/- Walks of the program's package vector: Add, Sub, Cross, Scale, Dot, Det at valid vectors; height. -/
namespace Go.Proofs.YthkkdepppjiaeaaGreatDoor
open Go.RowKit Go.Shelf Go.Sort

attribute [local go_sem] Oper.semAt_some

set_option maxRecDepth 100000 in
set_option maxHeartbeats 4000000 in
theorem ve_Dot (a b : V3) (w : World) (hE : Env w) (ha : SzV 500000 a) (hb : SzV 500000 b) :
    Calls Tryz.prog 105 #[vV a, vV b] w fun e w' => e = .returned (.tuple #[.string (rs (dotV a b)), .int .i64 0]) ∧ Below w.heap.size w w' := by
  have HC := Lib.hid (fun N t W hE h => ve_check2 (N := N) (t := t) (sh_of ha (by decide)) (sh_of hb (by decide)) W hE h)
  rw [chk2_rs] at HC
  have HP := Lib.hid (fun w hE => ve_dot a b w hE ha hb)
  have HE := Lib.hid hE
  clear hE ha hb
  generalize rs (dotV a b) = z at *
  unfold vV at *
  go_enter Tryz.func105, Tryz.ntmps105
  go_wp2_with fail
  generalize hW : ((World.alloc w _).alloc _).alloc _ = W
  obtain ⟨hB, hsz, R2, R3, RS⟩ := A3 hW
  have R2 := Lib.hid R2
  have R3 := Lib.hid R3
  have RS := Lib.hid RS
  clear hW hsz
  refine (HC.out _ _ _ (HE.out.below hB) RS.out).mono ?_
  rintro e w1 ⟨rfl, hb⟩
  replace hB := bstep hB hb
  have R2 := Lib.hid (keep hb R2.out)
  have R3 := Lib.hid (keep hb R3.out)
  clear hb
  obtain ⟨R2c0, R2c1, R2c2, R2f0, R2f1, R2f2⟩ := row3 R2.out
  obtain ⟨R3c0, R3c1, R3c2, R3f0, R3f1, R3f2⟩ := row3 R3.out
  go_wp2_with fail
  clear R2c0 R2c1 R2c2 R2f0 R2f1 R2f2
  clear R3c0 R3c1 R3c2 R3f0 R3f1 R3f2
  refine (HP.out _ (HE.out.below hB)).mono ?_
  rintro e w2 ⟨rfl, hb⟩
  replace hB := bstep hB hb
  clear hb
  go_wp2_with fail
  exact bodyPost_ret (results_tmp2 rfl _ _ _) rfl ⟨rfl, hB⟩

end Go.Proofs.YthkkdepppjiaeaaGreatDoor

/- Walks of the program's package vector: plane, height, Side. -/
namespace Go.Proofs.YthkkdepppjiaeaaGreatDoor
open Go.RowKit Go.Shelf Go.Sort

attribute [local go_sem] Oper.semAt_some

theorem vec_guard : Tryz.prog.eqGuardType Tryz.prog.depth 24 = false := by kernel_rfl
theorem vec_held : Tryz.prog.stoodInHeld 24 = false := by kernel_rfl
theorem vec_eqn (n : Nat) (w : World) (a b c a' b' c' : ByteArray) : (Op.equalIn (n + 2) 24 (.agg #[.string a, .string b, .string c]) (.agg #[.string a', .string b', .string c'])).run Tryz.prog w = .ok ((a.toList == a'.toList) && ((b.toList == b'.toList) && (c.toList == c'.toList))) w := by
  have hf : Tryz.prog.underlying 24 = some (.struct (Tryz.prog.fieldsOf 24)) := by
    unfold Program.fieldsOf
    rw [Tryz.underlying24]
  refine (run_equalIn_agg w (n + 1) _ _ _ hf vec_held).trans ?_
  unfold Program.fieldsOf
  rw [Tryz.underlying24]
  simp [Op.eqFields, go_sem]
  by_cases h1 : a.toList = a'.toList
  · by_cases h2 : b.toList = b'.toList
    · by_cases h3 : c.toList = c'.toList
      · simp [h1, h2, h3]
      · simp [h1, h2, h3]
    · simp [h1, h2]
  · simp [h1]
theorem vec_eq (w : World) (a b c a' b' c' : ByteArray) : (Op.equalIn 10000 24 (.agg #[.string a, .string b, .string c]) (.agg #[.string a', .string b', .string c'])).run Tryz.prog w = .ok ((a.toList == a'.toList) && ((b.toList == b'.toList) && (c.toList == c'.toList))) w := vec_eqn 9998 w a b c a' b' c'
attribute [local go_sem] vec_guard vec_eq

end Go.Proofs.YthkkdepppjiaeaaGreatDoor

/- Walks of the program's package vector: height, Side. -/
namespace Go.Proofs.YthkkdepppjiaeaaGreatDoor
open Go.RowKit Go.Shelf Go.Sort

attribute [local go_sem] Oper.semAt_some vec_guard vec_eq

theorem sz_dot {k : Nat} {a b : V3} (ha : SzV k a) (hb : SzV k b) : Sz (20 * k) (dotV a b) := by
  unfold dotV
  exact (sz_add (sz_add (sz_mul ha.1 hb.1) (sz_mul ha.2.1 hb.2.1)) (sz_mul ha.2.2 hb.2.2)).mono (by omega)
def hgt (n : V3) (c : Rat) (a : V3) : Rat := dotV n a - c
end Go.Proofs.YthkkdepppjiaeaaGreatDoor
