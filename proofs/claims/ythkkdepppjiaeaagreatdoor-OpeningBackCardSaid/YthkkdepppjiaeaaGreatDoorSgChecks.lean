/- The law OpeningChecks. -/
import Derived.Test.YthkkdepppjiaeaaGreatDoorScOpening
import Derived.Test.YthkkdepppjiaeaaGreatDoorSbOpening
import Derived.Test.YthkkdepppjiaeaaGreatDoorReRange
namespace Go.Proofs.YthkkdepppjiaeaaGreatDoor
open Go.RowKit Go.Shelf Go.Sort

attribute [local go_sem] Oper.semAt_some


set_option maxRecDepth 100000 in
set_option maxHeartbeats 4000000 in
theorem la31_chk_no (A : Option Addr) (n c : Nat) (m : Bool) (w : World) (hE : Env w)
    (hf : ∀ W, Below w.heap.size w W → Calls Tryz.prog 28 #[.slice A n c] W fun e w' => e = .returned (.bool false) ∧ Below W.heap.size W w') :
    Calls Tryz.prog 5 #[.slice A n c, .bool m] w fun e w' => e = .returned (.bool true) ∧ Below w.heap.size w w' := by
  have HF := Lib.hid hf
  have HE := Lib.hid hE
  clear hf hE
  go_enter Tryz.func5, Tryz.ntmps5
  go_wp2_with fail
  refine (la31_awake _ HE.out).mono ?_
  rintro e w1 ⟨rfl, hB⟩
  go_wp2_with fail
  refine (HF.out _ hB).mono ?_
  rintro e w2 ⟨rfl, hb⟩
  replace hB := bstep hB hb
  clear hb
  go_wp2_with fail
  go_ret
  exact ⟨rfl, hB⟩


set_option maxRecDepth 100000 in
set_option maxHeartbeats 4000000 in
theorem la31_chk_go (A : Option Addr) (b off n c : Nat) (S : Nat → Opn) (m : Bool) (ri rc : Int) (w : World) (hE : Env w) (hn : n ≤ 9223372036854775807) (hA : 0 < n → A = some ⟨b, off, none⟩) (hS : OpsAt w b off n S)
    (hf : ∀ W, Below w.heap.size w W → Calls Tryz.prog 28 #[.slice A n c] W fun e w' => e = .returned (.bool true) ∧ Below W.heap.size W w')
    (hc : ∀ W, Below w.heap.size w W → Calls Tryz.prog 29 #[.slice A n c] W fun e w' => e = .returned (.tuple #[.int .i64 ri, .int .i64 rc]) ∧ Below W.heap.size W w')
    (hd : ∀ W, Below w.heap.size w W → Calls Tryz.prog 30 #[.slice A n c] W fun e w' => e = .returned (.tuple #[.int .i64 ri, .int .i64 rc]) ∧ Below W.heap.size W w') :
    Calls Tryz.prog 5 #[.slice A n c, .bool m] w fun e w' => e = .returned (.bool true) ∧ Below w.heap.size w w' := by
  have HF := Lib.hid hf
  have HC := Lib.hid hc
  have HD := Lib.hid hd
  have HS := Lib.hid hS
  have HA := Lib.hid hA
  have HE := Lib.hid hE
  clear hf hE hc hd hS hA
  go_enter Tryz.func5, Tryz.ntmps5
  go_wp2_with fail
  refine (la31_awake _ HE.out).mono ?_
  rintro e w1 ⟨rfl, hB⟩
  go_wp2_with fail
  refine (HF.out _ hB).mono ?_
  rintro e w2 ⟨rfl, hb⟩
  replace hB := bstep hB hb
  clear hb
  go_wp2_with fail
  refine (HC.out _ hB).mono ?_
  rintro e w3 ⟨rfl, hb⟩
  replace hB := bstep hB hb
  clear hb
  go_wp2_with fail
  refine (HD.out _ hB).mono ?_
  rintro e w4 ⟨rfl, hb⟩
  replace hB := bstep hB hb
  clear hb
  go_wp2_with fail
  go_loopw [28] (fun x wr => ∃ k : Nat, k ≤ n ∧ x = .int .i64 k ∧ Below w.heap.size w wr) (fun x _ => n - (intOf x).toNat)
  case atStart => exact ⟨0, Nat.zero_le _, rfl, hB⟩
  case round =>
    clear hB
    obtain ⟨k, hk, rfl, hB⟩ := hrel
    by_cases hlt : k < n
    · have hAe := HA.out (by omega)
      subst hAe
      obtain ⟨c0, c1, c2, c3, c4, c5, c6⟩ := (HS.out.below hB) k hlt
      have P1 := Lib.hid (fun W => op_Passes (S k).id (S k).frm (S k).dst (S k).kind (S k).pt.1 (S k).pt.2.1 (S k).pt.2.2 m W)
      have P2 := Lib.hid (fun W => r31_Passes (S k).id (S k).frm (S k).dst (S k).kind (S k).pt.1 (S k).pt.2.1 (S k).pt.2.2 m W)
      generalize psB (S k).kind m = q at *
      generalize (S k).id = a1 at *
      generalize (S k).frm = a2 at *
      generalize (S k).dst = a3 at *
      generalize (S k).kind = a4 at *
      generalize (S k).pt.1 = s1 at *
      generalize (S k).pt.2.1 = s2 at *
      generalize (S k).pt.2.2 = s3 at *
      go_upto_region 10 with fail
      generalize hW : World.alloc _ _ = V
      obtain ⟨hb, hsz, R10⟩ := A1 hW
      replace hB := bstep hB hb
      clear hb
      have R10 := Lib.hid R10
      clear hW hsz
      clear c0 c1 c2 c3 c4 c5 c6
      have T1 := Lib.hid (fun W (_ : Below V.heap.size V W) => P1.out W)
      have T2 := Lib.hid (fun W (_ : Below V.heap.size V W) => P2.out W)
      clear P1 P2
      cases q
      all_goals
        have LR10 := fun (w' : World) (h : Ap V.heap.size V.heap.size V w') => rowc7 (h.rowV R10.out)
        have hvr := Below.refl V.heap.size V
        have hv0 := hvr.drew
        first
        | go_region_held3 (fun w' => Ap V.heap.size V.heap.size V w') (first | (with_reducible assumption) | (with_reducible exact Ap.refl _ _ _) | ((repeat (first | with_reducible assumption | with_reducible exact Ap.refl _ _ _ | with_reducible refine Ap.drew ?_ | with_reducible refine Ap.alloc ?_ | with_reducible refine Ap.set1 ?_ | with_reducible refine Ap.set2 ?_ | with_reducible refine Ap.setN (by first | with_reducible assumption | with_reducible exact Nat.le_refl _ | with_reducible exact Nat.le_add_right _ _ | with_reducible exact Nat.le_trans (by assumption) (Nat.le_add_right _ _)) ?_)); done))
            (first
              | (go_at_call 31; (with_reducible refine (T1.out _ (by first | with_reducible exact hv0)).mono ?_); rintro e wq0 ⟨rfl, hb⟩; have hv1 : Below V.heap.size V wq0 := (by first | with_reducible exact bstep (hv0) hb); have hs1 := Ap.of_below (g := V.heap.size) (h := V.heap.size) hv1; have sz1 := hv1.size; clear hb)
              | (go_at_call 32; (with_reducible refine (T2.out _ (by first | with_reducible exact hv1)).mono ?_); rintro e wq1 ⟨rfl, hb⟩; have hv2 : Below V.heap.size V wq1 := (by first | with_reducible exact bstep (hv1) hb); have hs2 := Ap.of_below (g := V.heap.size) (h := V.heap.size) hv2; have sz2 := hv2.size; clear hb))
        | fail
        all_goals
          go_wp2_with fail
          go_roundw
          case rel => exact ⟨k + 1, by omega, by go_num, bstep hB hv2⟩
          case measure => simp [intOf]; omega
    · have hkn : k = n := by omega
      go_wp2_with fail
      go_ret
      exact ⟨rfl, hB⟩


/-- What Check answers: some number and some fault. -/
theorem chk_first (S : Nat → Opn) (n : Nat) : ∃ ri rc : Int, ((∀ i, i < n → opC S i = 0) → ri = -1 ∧ rc = 0) ∧ (∀ i : Nat, i < n → (∀ j, j < i → opC S j = 0) → opC S i ≠ 0 → ri = (i : Int) ∧ rc = opC S i) := by
  rcases first_bad (fun i => opC S i == 0) n with h | ⟨m, h1, h2, h3⟩
  · exact ⟨-1, 0, fun _ => ⟨rfl, rfl⟩, fun i hi _ hne => absurd (by simpa using h i hi) hne⟩
  · refine ⟨m, opC S m, fun h => ?_, fun i hi hall hne => ?_⟩
    · have := h m h1
      simp [this] at h2
    · have hm : opC S m ≠ 0 := by simpa using h2
      have e : i = m := by
        rcases Nat.lt_trichotomy i m with h | h | h
        · exact absurd (by simpa using h3 i h) hne
        · exact h
        · exact absurd (hall m h) hm
      subst e
      exact ⟨rfl, rfl⟩
/-- The openings that a slice holds. -/
def OpsIn (w : World) (A : Option Addr) (n : Nat) (S : Nat → Opn) : Prop := n = 0 ∨ ∃ b o, A = some ⟨b, o, none⟩ ∧ OpsAt w b o n S
theorem opsIn_at {w : World} {A : Option Addr} {n : Nat} {S : Nat → Opn} (h : OpsIn w A n S) : ∃ b o, (0 < n → A = some ⟨b, o, none⟩) ∧ OpsAt w b o n S := by
  rcases h with h | ⟨b, o, h1, h2⟩
  · exact ⟨0, 0, fun k => absurd k (by omega), fun i hi => absurd hi (by omega)⟩
  · exact ⟨b, o, fun _ => h1, h2⟩
/-- Few, of a list. -/
theorem few_dec (S : Nat → Opn) (n : Nat) : ∃ r : Bool, (r = true ↔ ((n ≤ 12 ∨ 64 < n) ∧ n ≤ 69) ∧ ∀ i, i < n → S40 (S i).pt) ∧ ((((n ≤ 12 ∨ 64 < n) ∧ n ≤ 69) → (∀ i, i < n → S40 (S i).pt) → r = true) ∧ (¬ ((n ≤ 12 ∨ 64 < n) ∧ n ≤ 69) → r = false) ∧ ((∃ i, i < n ∧ ¬ S40 (S i).pt) → r = false)) := by
  classical
  refine ⟨decide (((n ≤ 12 ∨ 64 < n) ∧ n ≤ 69) ∧ ∀ i, i < n → S40 (S i).pt), decide_eq_true_iff, fun h1 h2 => decide_eq_true ⟨h1, h2⟩, fun h => decide_eq_false (fun k => h k.1), fun ⟨i, hi, h⟩ => decide_eq_false (fun k => h (k.2 i hi))⟩
theorem S40.sh6 {s : ByteArray × ByteArray × ByteArray} (h : S40 s) : Sh6 s := ⟨Nat.le_trans h.1 (by decide), Nat.le_trans h.2.1 (by decide), Nat.le_trans h.2.2 (by decide)⟩
theorem S40.shV {s : ByteArray × ByteArray × ByteArray} (h : S40 s) : ShV s := ⟨Nat.le_trans h.1 (by decide), Nat.le_trans h.2.1 (by decide), Nat.le_trans h.2.2 (by decide)⟩
/-- Both checks answer the same. -/
theorem both_checks (A : Option Addr) (b off n c : Nat) (S : Nat → Opn) (w : World) (hA : 0 < n → A = some ⟨b, off, none⟩) (hS : OpsAt w b off n S) (h40 : ∀ i, i < n → S40 (S i).pt) (hE : Env w) :
    ∃ ri rc : Int, (rc = 0 ↔ n ≤ 64 ∧ ∀ i, i < n → opC S i = 0) ∧ (∀ W, Below w.heap.size w W → Calls Tryz.prog 29 #[.slice A n c] W fun e w' => e = .returned (.tuple #[.int .i64 ri, .int .i64 rc]) ∧ Below W.heap.size W w') ∧ (∀ W, Below w.heap.size w W → Calls Tryz.prog 30 #[.slice A n c] W fun e w' => e = .returned (.tuple #[.int .i64 ri, .int .i64 rc]) ∧ Below W.heap.size W w') := by
  by_cases hn : n ≤ 64
  · obtain ⟨ri, rc, h0, h1⟩ := chk_first S n
    refine ⟨ri, rc, ?_, fun W hb => op_Check A b off n c S ri rc W (hE.below hb) hn hA (hS.below hb) (fun i hi => (h40 i hi).shV) h0 h1, fun W hb => r31_Check A b off n c S ri rc W hn hA (hS.below hb) (fun i hi => (h40 i hi).sh6) h0 h1⟩
    constructor
    · intro hrc
      refine ⟨hn, ?_⟩
      rcases first_bad (fun i => opC S i == 0) n with h | ⟨m, g1, g2, g3⟩
      · exact fun i hi => by simpa using h i hi
      · have hm : opC S m ≠ 0 := by simpa using g2
        exact absurd ((h1 m g1 (fun j hj => by simpa using g3 j hj) hm).2.symm.trans hrc) hm
    · exact fun h => (h0 h.2).2
  · exact ⟨-1, 8, ⟨fun h => absurd h (by decide), fun h => absurd h.1 hn⟩, fun W _ => op_Check_long A n c W (by omega), fun W _ => r31_Check_long A n c W (by omega)⟩
theorem la_op_checks (A : Option Addr) (n c : Nat) (S : Nat → Opn) (m : Bool) (w : World) (hE : Env w) (_ : A = none → n = 0) (hS : OpsIn w A n S) (hn : n ≤ 9223372036854775807) (hM : ∀ i, i < n → Mx (S i).pt) :
    Calls Tryz.prog 5 #[.slice A n c, .bool m] w fun e w' => e = .returned (.bool true) ∧ Below w.heap.size w w' := by
  obtain ⟨b, off, hA, hS⟩ := opsIn_at hS
  obtain ⟨r, hr, h0, h1, h2⟩ := few_dec S n
  have hF := fun W (hb : Below w.heap.size w W) => r31_Few A b off n c S r W hn hA (hS.below hb) hM h0 h1 h2
  cases r with
  | false => exact la31_chk_no A n c m w hE hF
  | true =>
    obtain ⟨ri, rc, _, hc, hd⟩ := both_checks A b off n c S w hA hS (hr.1 rfl).2 hE
    exact la31_chk_go A b off n c S m ri rc w hE hn hA hS hF hc hd
end Go.Proofs.YthkkdepppjiaeaaGreatDoor
