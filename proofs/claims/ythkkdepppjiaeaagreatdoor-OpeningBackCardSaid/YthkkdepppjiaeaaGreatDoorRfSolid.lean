/- A PART OF THE PROOF, JOINED OUT OF 2 TEXTS. -/
import Derived.Test.YthkkdepppjiaeaaGreatDoorReRange
import Derived.Test.YthkkdepppjiaeaaGreatDoorQvAttitude
/- The program's package attitude: solid and valid. -/
namespace Go.Proofs.YthkkdepppjiaeaaGreatDoor
open Go.RowKit Go.Shelf Go.Sort

attribute [local go_sem] Oper.semAt_some

/-- Are all of them vectors? -/
noncomputable def allB (n : Nat) (T : Nat → ByteArray × ByteArray × ByteArray) : Bool := (List.range n).all fun i => vvB (T i)
theorem allB_iff {n : Nat} {T : Nat → ByteArray × ByteArray × ByteArray} : allB n T = true ↔ ∀ i, i < n → vvB (T i) = true := by
  unfold allB
  rw [List.all_eq_true]
  exact ⟨fun h i hi => h i (List.mem_range.2 hi), fun h i hi => h i (List.mem_range.1 hi)⟩
theorem allB_false {n m : Nat} {T : Nat → ByteArray × ByteArray × ByteArray} (hm : m < n) (h : vvB (T m) = false) : allB n T = false := by
  cases e : allB n T with
  | false => rfl
  | true => rw [allB_iff.1 e m hm] at h; cases h
theorem row9s {W : World} {g : Nat} {s0 s1 s2 : ByteArray × ByteArray × ByteArray} {t : TypeId} (h : W.heap[g]? = some (.cells #[.string s0.1, .string s0.2.1, .string s0.2.2, .string s1.1, .string s1.2.1, .string s1.2.2, .string s2.1, .string s2.2.1, .string s2.2.2] t (0, 0))) :
    VecsAt W g 0 3 (fun i => match i with | 0 => s0 | 1 => s1 | _ => s2) := by
  obtain ⟨c0, c1, c2, c3, c4, c5, c6, c7, c8⟩ := rowc9 h
  intro i hi
  match i, hi with
  | 0, _ => exact ⟨c0, c1, c2⟩
  | 1, _ => exact ⟨c3, c4, c5⟩
  | 2, _ => exact ⟨c6, c7, c8⟩


set_option maxRecDepth 100000 in
set_option maxHeartbeats 4000000 in
theorem at_solid_none (A : Option Addr) (n c : Nat) (w : World) (hn : n = 0) :
    Calls Tryz.prog 80 #[.slice A n c] w fun e w' => e = .returned (.int .i64 9) ∧ Below w.heap.size w w' := by
  subst hn
  go_enter Tryz.func80, Tryz.ntmps80
  go_wp2_with fail
  go_ret
  exact ⟨rfl, Below.refl _ _⟩


set_option maxRecDepth 100000 in
set_option maxHeartbeats 4000000 in
theorem at_solid_long (A : Option Addr) (n c : Nat) (w : World) (hn : 512 < n) :
    Calls Tryz.prog 80 #[.slice A n c] w fun e w' => e = .returned (.int .i64 8) ∧ Below w.heap.size w w' := by
  have hn0 : ((n : Int) == 0) = false := by rw [beq_eq_false_iff_ne]; omega
  have hn5 : decide ((512 : Int) < (n : Int)) = true := by rw [decide_eq_true_iff]; omega
  go_enter Tryz.func80, Tryz.ntmps80
  go_wp2_with fail
  go_ret
  exact ⟨rfl, Below.refl _ _⟩


set_option maxRecDepth 100000 in
set_option maxHeartbeats 4000000 in
theorem at_solid_ok (A : Option Addr) (n c : Nat) (w : World) (hn : 1 ≤ n) (hn2 : n ≤ 512) :
    Calls Tryz.prog 80 #[.slice A n c] w fun e w' => e = .returned (.int .i64 0) ∧ Below w.heap.size w w' := by
  have hn0 : ((n : Int) == 0) = false := by rw [beq_eq_false_iff_ne]; omega
  have hn5 : decide ((512 : Int) < (n : Int)) = false := by rw [decide_eq_false_iff_not]; omega
  go_enter Tryz.func80, Tryz.ntmps80
  go_wp2_with fail
  go_ret
  exact ⟨rfl, Below.refl _ _⟩


set_option maxRecDepth 100000 in
set_option maxHeartbeats 4000000 in
theorem at_valid1 (s : ByteArray × ByteArray × ByteArray) (w : World) (hE : Env w) (hs : ShV s) :
    Calls Tryz.prog 120 #[txW s] w fun e w' => e = .returned (.bool (!vvB s)) ∧ Below w.heap.size w w' := by
  have H1 := Lib.hid (fun W (hW : Env W) => ve_Valid s.1 s.2.1 s.2.2 W hW hs.1 hs.2.1 hs.2.2)
  have HE := Lib.hid hE
  clear hE hs
  obtain ⟨s0, s1, s2⟩ := s
  simp only at H1
  show Calls Tryz.prog 120 #[txW (s0, s1, s2)] w fun e w' => e = .returned (.bool (!(rvB s0 && rvB s1 && rvB s2))) ∧ Below w.heap.size w w'
  generalize (rvB s0 && rvB s1 && rvB s2) = k at *
  go_enter Tryz.func120, Tryz.ntmps120
  go_wp2_with fail
  generalize hW : World.alloc w _ = W
  obtain ⟨hB, hsz, R1⟩ := A1 hW
  have R1 := Lib.hid R1
  clear hW hsz
  obtain ⟨R1c0, R1c1, R1c2, R1f0, R1f1, R1f2⟩ := row3 R1.out
  go_wp2_with fail
  clear R1c0 R1c1 R1c2 R1f0 R1f1 R1f2
  refine (H1.out _ (HE.out.below hB)).mono ?_
  rintro e w1 ⟨rfl, hb⟩
  replace hB := bstep hB hb
  clear hb
  go_wp2_with fail
  go_ret
  exact ⟨rfl, hB⟩


set_option maxRecDepth 100000 in
set_option maxHeartbeats 4000000 in
theorem ix_vec (b o n c : Nat) (T : Nat → ByteArray × ByteArray × ByteArray) (p : Nat → Bool) (w : World) (hE : Env w) (hn : n ≤ 9223372036854775807) (hA : VecsAt w b o n T)
    (hF : ∀ i, i < n → ∀ W, Env W → Calls Tryz.prog 120 #[txW (T i)] W fun e w' => e = .returned (.bool (!p i)) ∧ Below W.heap.size W w') :
    Calls Tryz.prog 149 #[.slice (some ⟨b, o, none⟩) n c, .func (.func 120) #[] #[]] w fun e w' => ∃ r : Int, e = .returned (.int .i64 r) ∧ ((∀ i, i < n → p i = true) ∧ r = -1 ∨ ∃ k : Nat, k < n ∧ p k = false ∧ r = k) ∧ Below w.heap.size w w' := by
  have HA := Lib.hid hA
  have HF := Lib.hid hF
  have HE := Lib.hid hE
  clear hA hF hE
  go_enter Tryz.func149, Tryz.ntmps149
  go_wp2_with fail
  go_loopw [8] (fun x wr => ∃ k : Nat, k ≤ n ∧ x = .int .i64 k ∧ Below w.heap.size w wr ∧ Hid (∀ i, i < k → p i = true)) (fun x _ => n - (intOf x).toNat)
  case atStart => exact ⟨0, Nat.zero_le _, rfl, Below.refl _ _, Lib.hid (fun i hi => absurd hi (by omega))⟩
  case round =>
    obtain ⟨k, hk, rfl, hB, HI⟩ := hrel
    by_cases hlt : k < n
    · obtain ⟨v0, v1, v2⟩ := (HA.out.below hB) k hlt
      have hp : ∃ q, p k = q := ⟨_, rfl⟩
      obtain ⟨q, hp⟩ := hp
      have h1 := HF.out k hlt
      rw [hp] at h1
      have HFk := Lib.hid h1
      clear h1
      go_wp2_with fail
      clear v0 v1 v2
      refine (HFk.out _ (HE.out.below hB)).mono ?_
      rintro e w5 ⟨rfl, hb⟩
      replace hB := bstep hB hb
      clear hb
      cases q
      · go_wp2_with fail
        go_ret
        exact ⟨_, rfl, .inr ⟨k, hlt, hp, rfl⟩, hB⟩
      · go_wp2_with fail
        go_roundw
        case rel => exact ⟨k + 1, hlt, by go_num, hB, Lib.hid (fun i hi => by
          by_cases e : i = k
          · rw [e]; exact hp
          · exact HI.out i (by omega))⟩
        case measure => simp [intOf]; omega
    · have hkn : k = n := by omega
      go_wp2_with fail
      go_ret
      exact ⟨_, rfl, .inl ⟨fun i hi => HI.out i (by omega), rfl⟩, hB⟩


set_option maxRecDepth 100000 in
set_option maxHeartbeats 4000000 in
theorem ix_tri (b o n c : Nat) (T : Nat → ByteArray × ByteArray × ByteArray) (p : Nat → Bool) (w : World) (hE : Env w) (hn : n ≤ 9223372036854775807) (hA : VecsAt w b o (n * 3) T)
    (hF : ∀ i, i < n → ∀ W, Env W → Calls Tryz.prog 118 #[.agg #[.string (T (i * 3 + 0)).1, .string (T (i * 3 + 0)).2.1, .string (T (i * 3 + 0)).2.2, .string (T (i * 3 + 1)).1, .string (T (i * 3 + 1)).2.1, .string (T (i * 3 + 1)).2.2, .string (T (i * 3 + 2)).1, .string (T (i * 3 + 2)).2.1, .string (T (i * 3 + 2)).2.2]] W fun e w' => e = .returned (.bool (!p i)) ∧ Below W.heap.size W w') :
    Calls Tryz.prog 148 #[.slice (some ⟨b, o, none⟩) n c, .func (.func 118) #[] #[]] w fun e w' => ∃ r : Int, e = .returned (.int .i64 r) ∧ ((∀ i, i < n → p i = true) ∧ r = -1 ∨ ∃ k : Nat, k < n ∧ p k = false ∧ r = k) ∧ Below w.heap.size w w' := by
  have HA := Lib.hid hA
  have HF := Lib.hid hF
  have HE := Lib.hid hE
  clear hA hF hE
  go_enter Tryz.func148, Tryz.ntmps148
  go_wp2_with fail
  go_loopw [8] (fun x wr => ∃ k : Nat, k ≤ n ∧ x = .int .i64 k ∧ Below w.heap.size w wr ∧ Hid (∀ i, i < k → p i = true)) (fun x _ => n - (intOf x).toNat)
  case atStart => exact ⟨0, Nat.zero_le _, rfl, Below.refl _ _, Lib.hid (fun i hi => absurd hi (by omega))⟩
  case round =>
    obtain ⟨k, hk, rfl, hB, HI⟩ := hrel
    by_cases hlt : k < n
    · obtain ⟨v0, v1, v2⟩ := (HA.out.below hB) (k * 3) (by omega)
      obtain ⟨v3, v4, v5⟩ := (HA.out.below hB) (k * 3 + 1) (by omega)
      obtain ⟨v6, v7, v8⟩ := (HA.out.below hB) (k * 3 + 2) (by omega)
      rw [show o + k * 3 * 3 = o + k * 9 by omega] at v0 v1 v2
      rw [show o + (k * 3 + 1) * 3 = o + k * 9 + 3 by omega] at v3 v4 v5
      rw [show o + (k * 3 + 2) * 3 = o + k * 9 + 6 by omega] at v6 v7 v8
      have hp : ∃ q, p k = q := ⟨_, rfl⟩
      obtain ⟨q, hp⟩ := hp
      have h1 := HF.out k hlt
      rw [hp] at h1
      have HFk := Lib.hid h1
      clear h1
      go_wp2_with fail
      clear v0 v1 v2 v3 v4 v5 v6 v7 v8
      refine (HFk.out _ (HE.out.below hB)).mono ?_
      rintro e w5 ⟨rfl, hb⟩
      replace hB := bstep hB hb
      clear hb
      cases q
      · go_wp2_with fail
        go_ret
        exact ⟨_, rfl, .inr ⟨k, hlt, hp, rfl⟩, hB⟩
      · go_wp2_with fail
        go_roundw
        case rel => exact ⟨k + 1, hlt, by go_num, hB, Lib.hid (fun i hi => by
          by_cases e : i = k
          · rw [e]; exact hp
          · exact HI.out i (by omega))⟩
        case measure => simp [intOf]; omega
    · have hkn : k = n := by omega
      go_wp2_with fail
      go_ret
      exact ⟨_, rfl, .inl ⟨fun i hi => HI.out i (by omega), rfl⟩, hB⟩

end Go.Proofs.YthkkdepppjiaeaaGreatDoor

/- The program's package attitude: valid. -/
namespace Go.Proofs.YthkkdepppjiaeaaGreatDoor
open Go.RowKit Go.Shelf Go.Sort

attribute [local go_sem] Oper.semAt_some


set_option maxRecDepth 100000 in
set_option maxHeartbeats 4000000 in
theorem cv_aux (A : Option Addr) (n c : Nat) (q : Bool) (w : World)
    (hi : Calls Tryz.prog 149 #[.slice A n c, .func (.func 120) #[] #[]] w fun e w' => ∃ r : Int, e = .returned (.int .i64 r) ∧ (q = false ∧ r = -1 ∨ ∃ k : Nat, q = true ∧ r = k) ∧ Below w.heap.size w w') :
    Calls Tryz.prog 119 #[.slice A n c, .func (.func 120) #[] #[]] w fun e w' => e = .returned (.bool q) ∧ Below w.heap.size w w' := by
  have HI := Lib.hid hi
  clear hi
  go_enter Tryz.func119, Tryz.ntmps119
  go_wp2_with fail
  refine HI.out.mono ?_
  rintro e w1 ⟨r, rfl, hr, hB⟩
  have hq : decide ((0 : Int) ≤ r) = q := by
    rcases hr with ⟨rfl, rfl⟩ | ⟨k, rfl, rfl⟩
    · rfl
    · exact decide_eq_true (Int.natCast_nonneg k)
  clear hr
  go_wp2_with fail
  go_ret
  exact ⟨rfl, hB⟩


set_option maxRecDepth 100000 in
set_option maxHeartbeats 4000000 in
theorem cs_aux (A : Option Addr) (n c : Nat) (q : Bool) (w : World)
    (hi : Calls Tryz.prog 148 #[.slice A n c, .func (.func 118) #[] #[]] w fun e w' => ∃ r : Int, e = .returned (.int .i64 r) ∧ (q = false ∧ r = -1 ∨ ∃ k : Nat, q = true ∧ r = k) ∧ Below w.heap.size w w') :
    Calls Tryz.prog 117 #[.slice A n c, .func (.func 118) #[] #[]] w fun e w' => e = .returned (.bool q) ∧ Below w.heap.size w w' := by
  have HI := Lib.hid hi
  clear hi
  go_enter Tryz.func117, Tryz.ntmps117
  go_wp2_with fail
  refine HI.out.mono ?_
  rintro e w1 ⟨r, rfl, hr, hB⟩
  have hq : decide ((0 : Int) ≤ r) = q := by
    rcases hr with ⟨rfl, rfl⟩ | ⟨k, rfl, rfl⟩
    · rfl
    · exact decide_eq_true (Int.natCast_nonneg k)
  clear hr
  go_wp2_with fail
  go_ret
  exact ⟨rfl, hB⟩


theorem cv_vec (b o n c : Nat) (T : Nat → ByteArray × ByteArray × ByteArray) (w : World) (hE : Env w) (hn : n ≤ 9223372036854775807) (hA : VecsAt w b o n T) (hS : ∀ i, i < n → ShV (T i)) :
    Calls Tryz.prog 119 #[.slice (some ⟨b, o, none⟩) n c, .func (.func 120) #[] #[]] w fun e w' => e = .returned (.bool (!allB n T)) ∧ Below w.heap.size w w' := by
  refine cv_aux _ n c _ w ((ix_vec b o n c T (fun i => vvB (T i)) w hE hn hA (fun i hi W hW => at_valid1 (T i) W hW (hS i hi))).mono fun e w' ⟨r, e1, h, e2⟩ => ⟨r, e1, ?_, e2⟩)
  rcases h with ⟨h, hr⟩ | ⟨k, hk, hp, hr⟩
  · exact .inl ⟨by rw [allB_iff.2 h]; rfl, hr⟩
  · exact .inr ⟨k, by rw [allB_false hk hp]; rfl, hr⟩


set_option maxRecDepth 100000 in
set_option maxHeartbeats 4000000 in
theorem at_valid3 (s0 s1 s2 : ByteArray × ByteArray × ByteArray) (w : World) (hE : Env w) (h0 : ShV s0) (h1 : ShV s1) (h2 : ShV s2) :
    Calls Tryz.prog 118 #[.agg #[.string s0.1, .string s0.2.1, .string s0.2.2, .string s1.1, .string s1.2.1, .string s1.2.2, .string s2.1, .string s2.2.1, .string s2.2.2]] w fun e w' => e = .returned (.bool (!(vvB s0 && vvB s1 && vvB s2))) ∧ Below w.heap.size w w' := by
  have HC := Lib.hid (fun N t W (hW : Env W) (hr : W.heap[N]? = some (.cells #[.string s0.1, .string s0.2.1, .string s0.2.2, .string s1.1, .string s1.2.1, .string s1.2.2, .string s2.1, .string s2.2.1, .string s2.2.2] t (0, 0))) => cv_vec N 0 3 3 (fun i => match i with | 0 => s0 | 1 => s1 | _ => s2) W hW (by decide) (row9s hr) (fun i hi => by
    match i, hi with
    | 0, _ => exact h0
    | 1, _ => exact h1
    | 2, _ => exact h2))
  have ek : allB 3 (fun i => match i with | 0 => s0 | 1 => s1 | _ => s2) = (vvB s0 && vvB s1 && vvB s2) := by
    unfold allB
    simp [List.range_succ, Bool.and_assoc]
  rw [ek] at HC
  have HE := Lib.hid hE
  clear hE h0 h1 h2 ek
  generalize (vvB s0 && vvB s1 && vvB s2) = k at *
  generalize s0.1 = a0 at *
  generalize s0.2.1 = a1 at *
  generalize s0.2.2 = a2 at *
  generalize s1.1 = a3 at *
  generalize s1.2.1 = a4 at *
  generalize s1.2.2 = a5 at *
  generalize s2.1 = a6 at *
  generalize s2.2.1 = a7 at *
  generalize s2.2.2 = a8 at *
  go_enter Tryz.func118, Tryz.ntmps118
  go_wp2_with fail
  generalize hW : World.alloc w _ = W
  obtain ⟨hB, hsz, R1⟩ := A1 hW
  have R1 := Lib.hid R1
  clear hW hsz
  refine (HC.out _ _ _ (HE.out.below hB) R1.out).mono ?_
  rintro e w1 ⟨rfl, hb⟩
  replace hB := bstep hB hb
  go_wp2_with fail
  go_ret
  exact ⟨rfl, hB⟩


theorem cs_tri (b o n c : Nat) (T : Nat → ByteArray × ByteArray × ByteArray) (w : World) (hE : Env w) (hn : n ≤ 9223372036854775807) (hA : VecsAt w b o (n * 3) T) (hS : ∀ i, i < n * 3 → ShV (T i)) :
    Calls Tryz.prog 117 #[.slice (some ⟨b, o, none⟩) n c, .func (.func 118) #[] #[]] w fun e w' => e = .returned (.bool (!allB (n * 3) T)) ∧ Below w.heap.size w w' := by
  refine cs_aux _ n c _ w ((ix_tri b o n c T (fun i => vvB (T (i * 3 + 0)) && vvB (T (i * 3 + 1)) && vvB (T (i * 3 + 2))) w hE hn hA (fun i hi W hW => at_valid3 (T (i * 3 + 0)) (T (i * 3 + 1)) (T (i * 3 + 2)) W hW (hS _ (by omega)) (hS _ (by omega)) (hS _ (by omega)))).mono fun e w' ⟨r, e1, h, e2⟩ => ⟨r, e1, ?_, e2⟩)
  rcases h with ⟨h, hr⟩ | ⟨k, hk, hp, hr⟩
  · refine .inl ⟨?_, hr⟩
    rw [allB_iff.2 (fun j hj => ?_)]
    · rfl
    · have k := h (j / 3) (by omega)
      simp only [Bool.and_eq_true] at k
      have e : j % 3 = 0 ∨ j % 3 = 1 ∨ j % 3 = 2 := by omega
      rcases e with e | e | e
      · rw [show j = j / 3 * 3 + 0 by omega]; exact k.1.1
      · rw [show j = j / 3 * 3 + 1 by omega]; exact k.1.2
      · rw [show j = j / 3 * 3 + 2 by omega]; exact k.2
  · refine .inr ⟨k, ?_, hr⟩
    cases e0 : vvB (T (k * 3 + 0)) with
    | false => rw [allB_false (show k * 3 + 0 < n * 3 by omega) e0]; rfl
    | true =>
      cases e1 : vvB (T (k * 3 + 1)) with
      | false => rw [allB_false (show k * 3 + 1 < n * 3 by omega) e1]; rfl
      | true =>
        have e2 : vvB (T (k * 3 + 2)) = false := by
          have := hp
          simp only [e0, e1, Bool.true_and] at this
          exact this
        rw [allB_false (show k * 3 + 2 < n * 3 by omega) e2]; rfl


set_option maxRecDepth 100000 in
set_option maxHeartbeats 4000000 in
theorem at_valid (b o n c : Nat) (T : Nat → ByteArray × ByteArray × ByteArray) (w : World) (hE : Env w) (hn : n ≤ 9223372036854775807) (hA : VecsAt w b o (n * 3) T) (hS : ∀ i, i < n * 3 → ShV (T i)) :
    Calls Tryz.prog 81 #[.slice (some ⟨b, o, none⟩) n c] w fun e w' => e = .returned (.bool (allB (n * 3) T)) ∧ Below w.heap.size w w' := by
  have HC := Lib.hid (cs_tri b o n c T w hE hn hA hS)
  clear hE hn hA hS
  generalize allB (n * 3) T = k at *
  go_enter Tryz.func81, Tryz.ntmps81
  go_wp2_with fail
  refine HC.out.mono ?_
  rintro e w1 ⟨rfl, hB⟩
  go_wp2_with fail
  go_ret
  exact ⟨by simp, hB⟩

end Go.Proofs.YthkkdepppjiaeaaGreatDoor
