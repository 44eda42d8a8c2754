/- A PART OF THE PROOF, JOINED OUT OF 2 TEXTS. -/
import Derived.Test.YthkkdepppjiaeaaGreatDoorSaOpening
import Derived.BigQuiet
import Derived.Deep.QuietTactic
import Derived.Test.YthkkdepppjiaeaaGreatDoorRcBack
import Derived.Test.YthkkdepppjiaeaaGreatDoorQxMirrors
/- The program's package opening: openings in a slice, Check, Passes. -/
namespace Go.Proofs.YthkkdepppjiaeaaGreatDoor
open Go.RowKit Go.Shelf Go.Sort

attribute [local go_sem] Oper.semAt_some

/-- An opening: its numbers, and the texts of its point. -/
structure Opn where
  id : Int
  frm : Int
  dst : Int
  kind : Int
  pt : ByteArray × ByteArray × ByteArray
def opV (o : Opn) : Value := .agg #[.int .i64 o.id, .int .i64 o.frm, .int .i64 o.dst, .int .i64 o.kind, .string o.pt.1, .string o.pt.2.1, .string o.pt.2.2]
/-- The openings that a slice holds. -/
def OpsAt (w : World) (b o n : Nat) (S : Nat → Opn) : Prop :=
  ∀ i, i < n → w.cell? ⟨b, o + i * 7, none⟩ = some (.int .i64 (S i).id) ∧ w.cell? ⟨b, o + i * 7 + 1, none⟩ = some (.int .i64 (S i).frm) ∧ w.cell? ⟨b, o + i * 7 + 2, none⟩ = some (.int .i64 (S i).dst) ∧ w.cell? ⟨b, o + i * 7 + 3, none⟩ = some (.int .i64 (S i).kind) ∧ w.cell? ⟨b, o + i * 7 + 4, none⟩ = some (.string (S i).pt.1) ∧ w.cell? ⟨b, o + i * 7 + 5, none⟩ = some (.string (S i).pt.2.1) ∧ w.cell? ⟨b, o + i * 7 + 6, none⟩ = some (.string (S i).pt.2.2)
theorem OpsAt.below {w w' : World} {b o n : Nat} {S : Nat → Opn} (h : OpsAt w b o n S) (hb : Below w.heap.size w w') : OpsAt w' b o n S := fun i hi => by
  obtain ⟨h0, h1, h2, h3, h4, h5, h6⟩ := h i hi
  have hl : b < w.heap.size := World.block_lt_of_cell? w _ h0
  exact ⟨(hb.cell (p := ⟨b, _, none⟩) hl).trans h0, (hb.cell (p := ⟨b, _, none⟩) hl).trans h1, (hb.cell (p := ⟨b, _, none⟩) hl).trans h2, (hb.cell (p := ⟨b, _, none⟩) hl).trans h3, (hb.cell (p := ⟨b, _, none⟩) hl).trans h4, (hb.cell (p := ⟨b, _, none⟩) hl).trans h5, (hb.cell (p := ⟨b, _, none⟩) hl).trans h6⟩
/-- The numbers of an opening are in range. -/
def RngO (a b c d : Int) : Prop := 1 ≤ a ∧ a ≤ 9999 ∧ 0 ≤ b ∧ b ≤ 9999 ∧ 0 ≤ c ∧ c ≤ 9999 ∧ 1 ≤ d ∧ d ≤ 3
instance (a b c d : Int) : Decidable (RngO a b c d) := by unfold RngO; infer_instance
theorem rng_cases (a b c d : Int) : (¬ RngO a b c d ∧ (a < 1 ∨ (¬ a < 1 ∧ 9999 < a) ∨ (¬ a < 1 ∧ ¬ 9999 < a ∧ b < 0) ∨ (¬ a < 1 ∧ ¬ 9999 < a ∧ ¬ b < 0 ∧ 9999 < b) ∨ (¬ a < 1 ∧ ¬ 9999 < a ∧ ¬ b < 0 ∧ ¬ 9999 < b ∧ c < 0) ∨ (¬ a < 1 ∧ ¬ 9999 < a ∧ ¬ b < 0 ∧ ¬ 9999 < b ∧ ¬ c < 0 ∧ 9999 < c) ∨ (¬ a < 1 ∧ ¬ 9999 < a ∧ ¬ b < 0 ∧ ¬ 9999 < b ∧ ¬ c < 0 ∧ ¬ 9999 < c ∧ d < 1) ∨ (¬ a < 1 ∧ ¬ 9999 < a ∧ ¬ b < 0 ∧ ¬ 9999 < b ∧ ¬ c < 0 ∧ ¬ 9999 < c ∧ ¬ d < 1 ∧ 3 < d))) ∨ (RngO a b c d ∧ ¬ a < 1 ∧ ¬ 9999 < a ∧ ¬ b < 0 ∧ ¬ 9999 < b ∧ ¬ c < 0 ∧ ¬ 9999 < c ∧ ¬ d < 1 ∧ ¬ 3 < d) := by
  unfold RngO
  by_cases h1 : a < 1
  · exact .inl ⟨by omega, .inl h1⟩
  by_cases h2 : 9999 < a
  · exact .inl ⟨by omega, .inr (.inl ⟨h1, h2⟩)⟩
  by_cases h3 : b < 0
  · exact .inl ⟨by omega, .inr (.inr (.inl ⟨h1, h2, h3⟩))⟩
  by_cases h4 : 9999 < b
  · exact .inl ⟨by omega, .inr (.inr (.inr (.inl ⟨h1, h2, h3, h4⟩)))⟩
  by_cases h5 : c < 0
  · exact .inl ⟨by omega, .inr (.inr (.inr (.inr (.inl ⟨h1, h2, h3, h4, h5⟩))))⟩
  by_cases h6 : 9999 < c
  · exact .inl ⟨by omega, .inr (.inr (.inr (.inr (.inr (.inl ⟨h1, h2, h3, h4, h5, h6⟩)))))⟩
  by_cases h7 : d < 1
  · exact .inl ⟨by omega, .inr (.inr (.inr (.inr (.inr (.inr (.inl ⟨h1, h2, h3, h4, h5, h6, h7⟩))))))⟩
  by_cases h8 : 3 < d
  · exact .inl ⟨by omega, .inr (.inr (.inr (.inr (.inr (.inr (.inr (⟨h1, h2, h3, h4, h5, h6, h7, h8⟩)))))))⟩
  exact .inr ⟨⟨by omega, by omega, by omega, by omega, by omega, by omega, by omega, by omega⟩, h1, h2, h3, h4, h5, h6, h7, h8⟩
/-- The fault of opening i of a list; 0: none. -/
noncomputable def opC (S : Nat → Opn) (i : Nat) : Int :=
  if ¬ RngO (S i).id (S i).frm (S i).dst (S i).kind then 2 else if 0 < i ∧ (S i).id ≤ (S (i - 1)).id then 5 else if (S i).frm = (S i).dst then 10 else if vvB (S i).pt = true then 0 else 1


set_option maxRecDepth 100000 in
set_option maxHeartbeats 4000000 in
theorem op_Check (A : Option Addr) (b off n c : Nat) (S : Nat → Opn) (ri rc : Int) (w : World) (hE : Env w) (hn : n ≤ 64) (hA : 0 < n → A = some ⟨b, off, none⟩) (hS : OpsAt w b off n S) (hs : ∀ i, i < n → ShV (S i).pt)
    (hr0 : (∀ i, i < n → opC S i = 0) → ri = -1 ∧ rc = 0) (hr1 : ∀ i : Nat, i < n → (∀ j, j < i → opC S j = 0) → opC S i ≠ 0 → ri = (i : Int) ∧ rc = opC S i) :
    Calls Tryz.prog 29 #[.slice A n c] w fun e w' => e = .returned (.tuple #[.int .i64 ri, .int .i64 rc]) ∧ Below w.heap.size w w' := by
  have HS := Lib.hid hS
  have HA := Lib.hid hA
  clear hA
  have HZ := Lib.hid hs
  have HR0 := Lib.hid hr0
  have HR1 := Lib.hid hr1
  have HE := Lib.hid hE
  clear hS hs hr0 hr1 hE
  have hn64 : ¬ (64 : Int) < (n : Int) := by omega
  go_enter Tryz.func29, Tryz.ntmps29
  go_wp2_with fail
  go_loopw [11] (fun x wr => ∃ k : Nat, k ≤ n ∧ x = .int .i64 k ∧ Below w.heap.size w wr ∧ Hid (∀ i, i < k → opC S i = 0)) (fun x _ => n - (intOf x).toNat)
  case atStart => exact ⟨0, Nat.zero_le _, rfl, Below.refl _ _, Lib.hid (fun i hi => absurd hi (by omega))⟩
  case round =>
    obtain ⟨k, hk, rfl, hB, HI⟩ := hrel
    by_cases hlt : k < n
    · have hAe := HA.out (by omega)
      subst hAe
      obtain ⟨c0, c1, c2, c3, c4, c5, c6⟩ := (HS.out.below hB) k hlt
      have HV0 := fun w hE => ve_Valid (S k).pt.1 (S k).pt.2.1 (S k).pt.2.2 w hE (HZ.out k hlt).1 (HZ.out k hlt).2.1 (HZ.out k hlt).2.2
      have hvv : (rvB (S k).pt.1 && rvB (S k).pt.2.1 && rvB (S k).pt.2.2) = vvB (S k).pt := rfl
      rw [hvv] at HV0
      have Hv := Lib.hid HV0
      clear HV0
      have HP : Hid (0 < k → ∀ W, Below w.heap.size w W → W.cell? ⟨b, off + (k - 1) * 7, none⟩ = some (.int .i64 (S (k - 1)).id)) := Lib.hid (fun h0 W hb => ((HS.out.below hb) (k - 1) (by omega)).1)
      have J2 : Hid (¬ RngO (S k).id (S k).frm (S k).dst (S k).kind → ri = (k : Int) ∧ rc = 2) := Lib.hid (fun h => by
        have e : opC S k = 2 := by unfold opC; rw [if_pos h]
        have q := HR1.out k hlt HI.out (by rw [e]; decide)
        rwa [e] at q)
      have J5 : Hid (RngO (S k).id (S k).frm (S k).dst (S k).kind → 0 < k → (S k).id ≤ (S (k - 1)).id → ri = (k : Int) ∧ rc = 5) := Lib.hid (fun h h1 h2 => by
        have e : opC S k = 5 := by unfold opC; rw [if_neg (fun g => g h), if_pos ⟨h1, h2⟩]
        have q := HR1.out k hlt HI.out (by rw [e]; decide)
        rwa [e] at q)
      have J10 : Hid (RngO (S k).id (S k).frm (S k).dst (S k).kind → ¬ (0 < k ∧ (S k).id ≤ (S (k - 1)).id) → (S k).frm = (S k).dst → ri = (k : Int) ∧ rc = 10) := Lib.hid (fun h h1 h2 => by
        have e : opC S k = 10 := by unfold opC; rw [if_neg (fun g => g h), if_neg h1, if_pos h2]
        have q := HR1.out k hlt HI.out (by rw [e]; decide)
        rwa [e] at q)
      have J1 : Hid (RngO (S k).id (S k).frm (S k).dst (S k).kind → ¬ (0 < k ∧ (S k).id ≤ (S (k - 1)).id) → ¬ (S k).frm = (S k).dst → vvB (S k).pt = false → ri = (k : Int) ∧ rc = 1) := Lib.hid (fun h h1 h2 h3 => by
        have e : opC S k = 1 := by unfold opC; rw [if_neg (fun g => g h), if_neg h1, if_neg h2, h3]; rfl
        have q := HR1.out k hlt HI.out (by rw [e]; decide)
        rwa [e] at q)
      have J0 : Hid (RngO (S k).id (S k).frm (S k).dst (S k).kind → ¬ (0 < k ∧ (S k).id ≤ (S (k - 1)).id) → ¬ (S k).frm = (S k).dst → vvB (S k).pt = true → ∀ i, i < k + 1 → opC S i = 0) := Lib.hid (fun h h1 h2 h3 i hi => by
        by_cases e : i = k
        · rw [e]; unfold opC; rw [if_neg (fun g => g h), if_neg h1, if_neg h2, if_pos h3]
        · exact HI.out i (by omega))
      clear HI hvv
      generalize (S k).id = a1 at *
      generalize (S k).frm = a2 at *
      generalize (S k).dst = a3 at *
      generalize (S k).kind = a4 at *
      generalize vvB (S k).pt = ok at *
      generalize (S k).pt.1 = s1 at *
      generalize (S k).pt.2.1 = s2 at *
      generalize (S k).pt.2.2 = s3 at *
      go_upto_region 6 with fail
      generalize hW : World.alloc _ _ = V
      obtain ⟨hb, hsz, R5⟩ := A1 hW
      replace hB := bstep hB hb
      clear hb
      have R5 := Lib.hid R5
      clear hW hsz
      clear c0 c1 c2 c3 c4 c5 c6
      rcases rng_cases a1 a2 a3 a4 with ⟨hg, h⟩ | ⟨hg, h⟩
      · have HL := Lib.hid (J2.out hg)
        clear J2 J5 J10 J1 J0 hg
        rcases h with g1 | ⟨g1, g2⟩ | ⟨g1, g2, g3⟩ | ⟨g1, g2, g3, g4⟩ | ⟨g1, g2, g3, g4, g5⟩ | ⟨g1, g2, g3, g4, g5, g6⟩ | ⟨g1, g2, g3, g4, g5, g6, g7⟩ | ⟨g1, g2, g3, g4, g5, g6, g7, g8⟩
        all_goals
          obtain ⟨R5c0, R5c1, R5c2, R5c3, R5c4, R5c5, R5c6, R5f0, R5f1, R5f2, R5f3, R5f4, R5f5, R5f6⟩ := row7 R5.out
          go_wp2_with fail
          go_ret2
          rw [HL.out.1, HL.out.2]
          exact ⟨rfl, hB⟩
      · obtain ⟨g1, g2, g3, g4, g5, g6, g7, g8⟩ := h
        clear J2
        have J5 := Lib.hid (J5.out hg)
        have J10 := Lib.hid (J10.out hg)
        have J1 := Lib.hid (J1.out hg)
        have J0 := Lib.hid (J0.out hg)
        clear hg
        obtain ⟨R5c0, R5c1, R5c2, R5c3, R5c4, R5c5, R5c6, R5f0, R5f1, R5f2, R5f3, R5f4, R5f5, R5f6⟩ := row7 R5.out
        go_upto_region 8 with fail
        clear R5c0 R5c1 R5c2 R5c3 R5c4 R5c5 R5c6 R5f0 R5f1 R5f2 R5f3 R5f4 R5f5 R5f6
        clear g1 g2 g3 g4 g5 g6 g7 g8
        rcases Nat.eq_zero_or_pos k with hk0 | hk0
        · subst hk0
          have J10 := Lib.hid (J10.out (fun h => absurd h.1 (by decide)))
          have J1 := Lib.hid (J1.out (fun h => absurd h.1 (by decide)))
          have J0 := Lib.hid (J0.out (fun h => absurd h.1 (by decide)))
          clear J5 HP
          obtain ⟨x0, x1, x2, x3, x4, x5, x6⟩ := rowc7 R5.out
          go_quiet (fail)
          clear x0 x1 x2 x3 x4 x5 x6
          generalize hV2 : World.drewN V _ = V2
          have hb2 : Below V.heap.size V V2 := hV2 ▸ below_drewN (Below.refl _ _) _
          replace hB := bstep hB hb2
          have R5 := Lib.hid (keep hb2 R5.out)
          clear hb2 hV2
          by_cases h10 : a2 = a3
          · have HL := Lib.hid (J10.out h10)
            clear J10 J1 J0
            subst h10
            obtain ⟨R5c0, R5c1, R5c2, R5c3, R5c4, R5c5, R5c6, R5f0, R5f1, R5f2, R5f3, R5f4, R5f5, R5f6⟩ := row7 R5.out
            go_wp2_with fail
            go_ret2
            rw [HL.out.1, HL.out.2]
            exact ⟨rfl, hB⟩
          · have J1 := Lib.hid (J1.out h10)
            have J0 := Lib.hid (J0.out h10)
            clear J10
            have he : (a2 == a3) = false := by rw [beq_eq_false_iff_ne]; exact h10
            obtain ⟨R5c0, R5c1, R5c2, R5c3, R5c4, R5c5, R5c6, R5f0, R5f1, R5f2, R5f3, R5f4, R5f5, R5f6⟩ := row7 R5.out
            go_wp2_with fail
            clear R5c0 R5c1 R5c2 R5c3 R5c4 R5c5 R5c6 R5f0 R5f1 R5f2 R5f3 R5f4 R5f5 R5f6
            refine (Hv.out _ (HE.out.below hB)).mono ?_
            rintro e w2 ⟨rfl, hb⟩
            replace hB := bstep hB hb
            clear hb
            cases ok
            · have HL := Lib.hid (J1.out rfl)
              clear J1 J0
              go_wp2_with fail
              go_ret2
              rw [HL.out.1, HL.out.2]
              exact ⟨rfl, hB⟩
            · have HN := Lib.hid (J0.out rfl)
              clear J1 J0
              go_wp2_with fail
              go_roundw
              case rel => exact ⟨0 + 1, by omega, by go_num, hB, HN⟩
              case measure => simp [intOf]; omega
        · obtain ⟨m, rfl⟩ : ∃ m, k = m + 1 := ⟨k - 1, by omega⟩
          have hp := HP.out hk0 V hB
          rw [show m + 1 - 1 = m from rfl] at hp
          have J5 := Lib.hid (J5.out hk0)
          rw [show m + 1 - 1 = m from rfl] at J5 J10 J1 J0
          generalize (S m).id = p1 at *
          have hidx : ((m + 1 : Nat) : Int) - 1 = (m : Int) := by omega
          have hg0 : decide ((0 : Int) < ((m + 1 : Nat) : Int)) = true := by rw [decide_eq_true_iff]; omega
          obtain ⟨x0, x1, x2, x3, x4, x5, x6⟩ := rowc7 R5.out
          by_cases hle : a1 ≤ p1
          · have HL := Lib.hid (J5.out hle)
            clear J5 J10 J1 J0 HP
            go_quiet (fail)
            go_wp2_with fail
            go_ret2
            rw [HL.out.1, HL.out.2]
            exact ⟨rfl, below_drewN hB _⟩
          · have J10 := Lib.hid (J10.out (fun h => hle h.2))
            have J1 := Lib.hid (J1.out (fun h => hle h.2))
            have J0 := Lib.hid (J0.out (fun h => hle h.2))
            clear J5 HP
            go_quiet (fail)
            clear x0 x1 x2 x3 x4 x5 x6 hp
            generalize hV2 : World.drewN V _ = V2
            have hb2 : Below V.heap.size V V2 := hV2 ▸ below_drewN (Below.refl _ _) _
            replace hB := bstep hB hb2
            have R5 := Lib.hid (keep hb2 R5.out)
            clear hb2 hV2
            by_cases h10 : a2 = a3
            · have HL := Lib.hid (J10.out h10)
              clear J10 J1 J0
              subst h10
              obtain ⟨R5c0, R5c1, R5c2, R5c3, R5c4, R5c5, R5c6, R5f0, R5f1, R5f2, R5f3, R5f4, R5f5, R5f6⟩ := row7 R5.out
              go_wp2_with fail
              go_ret2
              rw [HL.out.1, HL.out.2]
              exact ⟨rfl, hB⟩
            · have J1 := Lib.hid (J1.out h10)
              have J0 := Lib.hid (J0.out h10)
              clear J10
              have he : (a2 == a3) = false := by rw [beq_eq_false_iff_ne]; exact h10
              obtain ⟨R5c0, R5c1, R5c2, R5c3, R5c4, R5c5, R5c6, R5f0, R5f1, R5f2, R5f3, R5f4, R5f5, R5f6⟩ := row7 R5.out
              go_wp2_with fail
              clear R5c0 R5c1 R5c2 R5c3 R5c4 R5c5 R5c6 R5f0 R5f1 R5f2 R5f3 R5f4 R5f5 R5f6
              refine (Hv.out _ (HE.out.below hB)).mono ?_
              rintro e w2 ⟨rfl, hb⟩
              replace hB := bstep hB hb
              clear hb
              cases ok
              · have HL := Lib.hid (J1.out rfl)
                clear J1 J0
                go_wp2_with fail
                go_ret2
                rw [HL.out.1, HL.out.2]
                exact ⟨rfl, hB⟩
              · have HN := Lib.hid (J0.out rfl)
                clear J1 J0
                go_wp2_with fail
                go_roundw
                case rel => exact ⟨(m + 1) + 1, by omega, by go_num, hB, HN⟩
                case measure => simp [intOf]; omega
    · have hkn : k = n := by omega
      have HV2 : Hid (ri = -1 ∧ rc = 0) := Lib.hid (HR0.out (fun i hi => HI.out i (by omega)))
      go_wp2_with fail
      go_ret2
      rw [HV2.out.1, HV2.out.2]
      exact ⟨rfl, hB⟩


set_option maxRecDepth 100000 in
set_option maxHeartbeats 4000000 in
theorem op_Check_long (A : Option Addr) (n c : Nat) (w : World) (hn : 64 < n) :
    Calls Tryz.prog 29 #[.slice A n c] w fun e w' => e = .returned (.tuple #[.int .i64 (-1), .int .i64 8]) ∧ Below w.heap.size w w' := by
  have hn64 : (64 : Int) < (n : Int) := by omega
  go_enter Tryz.func29, Tryz.ntmps29
  go_wp2_with fail
  go_ret2
  exact ⟨rfl, Below.refl _ _⟩

end Go.Proofs.YthkkdepppjiaeaaGreatDoor

/- The reference of layer 31: within, Passes, Good, Check, Few; the program's Passes. -/
namespace Go.Proofs.YthkkdepppjiaeaaGreatDoor
open Go.RowKit Go.Shelf Go.Sort

attribute [local go_sem] Oper.semAt_some

/-- An opening of kind k lets water through. -/
def psB (k : Int) (m : Bool) : Bool := (k == 1) || (m && (k == 2))


set_option maxRecDepth 100000 in
set_option maxHeartbeats 4000000 in
theorem op_Passes (oi of ot ok : Int) (r0 r1 r2 : ByteArray) (m : Bool) (w : World) :
    Calls Tryz.prog 31 #[.agg #[.int .i64 oi, .int .i64 of, .int .i64 ot, .int .i64 ok, .string r0, .string r1, .string r2], .bool m] w fun e w' => e = .returned (.bool (psB ok m)) ∧ Below w.heap.size w w' := by
  unfold psB
  cases e1 : (ok == 1)
  · cases m
    · go_enter Tryz.func31, Tryz.ntmps31
      go_upto_region 1 with fail
      generalize hW : World.alloc w _ = W
      obtain ⟨hB, hsz, R2⟩ := A1 hW
      have R2 := Lib.hid R2
      clear hW hsz
      obtain ⟨R2c0, R2c1, R2c2, R2c3, R2c4, R2c5, R2c6, R2f0, R2f1, R2f2, R2f3, R2f4, R2f5, R2f6⟩ := row7 R2.out
      go_wp2_with fail
      go_ret
      exact ⟨rfl, hB⟩
    · cases e2 : (ok == 2)
      all_goals
        go_enter Tryz.func31, Tryz.ntmps31
        go_upto_region 1 with fail
        generalize hW : World.alloc w _ = W
        obtain ⟨hB, hsz, R2⟩ := A1 hW
        have R2 := Lib.hid R2
        clear hW hsz
        obtain ⟨R2c0, R2c1, R2c2, R2c3, R2c4, R2c5, R2c6, R2f0, R2f1, R2f2, R2f3, R2f4, R2f5, R2f6⟩ := row7 R2.out
        go_wp2_with fail
        go_ret
        exact ⟨rfl, hB⟩
  · go_enter Tryz.func31, Tryz.ntmps31
    go_upto_region 1 with fail
    generalize hW : World.alloc w _ = W
    obtain ⟨hB, hsz, R2⟩ := A1 hW
    have R2 := Lib.hid R2
    clear hW hsz
    obtain ⟨R2c0, R2c1, R2c2, R2c3, R2c4, R2c5, R2c6, R2f0, R2f1, R2f2, R2f3, R2f4, R2f5, R2f6⟩ := row7 R2.out
    go_wp2_with fail
    go_ret
    exact ⟨rfl, hB⟩


set_option maxRecDepth 100000 in
set_option maxHeartbeats 4000000 in
theorem r31_Passes (oi of ot ok : Int) (r0 r1 r2 : ByteArray) (m : Bool) (w : World) :
    Calls Tryz.prog 32 #[.agg #[.int .i64 oi, .int .i64 of, .int .i64 ot, .int .i64 ok, .string r0, .string r1, .string r2], .bool m] w fun e w' => e = .returned (.bool (psB ok m)) ∧ Below w.heap.size w w' := by
  unfold psB
  cases e1 : (ok == 1)
  · cases m
    · go_enter Tryz.func32, Tryz.ntmps32
      go_upto_region 1 with fail
      generalize hW : World.alloc w _ = W
      obtain ⟨hB, hsz, R2⟩ := A1 hW
      have R2 := Lib.hid R2
      clear hW hsz
      obtain ⟨R2c0, R2c1, R2c2, R2c3, R2c4, R2c5, R2c6, R2f0, R2f1, R2f2, R2f3, R2f4, R2f5, R2f6⟩ := row7 R2.out
      go_wp2_with fail
      go_ret
      exact ⟨rfl, hB⟩
    · cases e2 : (ok == 2)
      all_goals
        go_enter Tryz.func32, Tryz.ntmps32
        go_upto_region 1 with fail
        generalize hW : World.alloc w _ = W
        obtain ⟨hB, hsz, R2⟩ := A1 hW
        have R2 := Lib.hid R2
        clear hW hsz
        obtain ⟨R2c0, R2c1, R2c2, R2c3, R2c4, R2c5, R2c6, R2f0, R2f1, R2f2, R2f3, R2f4, R2f5, R2f6⟩ := row7 R2.out
        go_wp2_with fail
        go_ret
        exact ⟨rfl, hB⟩
  · go_enter Tryz.func32, Tryz.ntmps32
    go_upto_region 1 with fail
    generalize hW : World.alloc w _ = W
    obtain ⟨hB, hsz, R2⟩ := A1 hW
    have R2 := Lib.hid R2
    clear hW hsz
    obtain ⟨R2c0, R2c1, R2c2, R2c3, R2c4, R2c5, R2c6, R2f0, R2f1, R2f2, R2f3, R2f4, R2f5, R2f6⟩ := row7 R2.out
    go_wp2_with fail
    go_ret
    exact ⟨rfl, hB⟩


set_option maxRecDepth 100000 in
set_option maxHeartbeats 4000000 in
theorem r31_within (a l h : Int) (b : Bool) (w : World) (hb : b = decide (l ≤ a ∧ a ≤ h)) :
    Calls Tryz.prog 72 #[.int .i64 a, .int .i64 l, .int .i64 h] w fun e w' => e = .returned (.bool b) ∧ Below w.heap.size w w' := by
  subst hb
  by_cases h1 : l ≤ a
  · by_cases h2 : a ≤ h
    · rw [show decide (l ≤ a ∧ a ≤ h) = true from decide_eq_true ⟨h1, h2⟩]
      go_enter Tryz.func72, Tryz.ntmps72
      go_wp2_with fail
      go_ret
      exact ⟨rfl, Below.refl _ _⟩
    · rw [show decide (l ≤ a ∧ a ≤ h) = false from decide_eq_false (fun k => h2 k.2)]
      go_enter Tryz.func72, Tryz.ntmps72
      go_wp2_with fail
      go_ret
      exact ⟨rfl, Below.refl _ _⟩
  · rw [show decide (l ≤ a ∧ a ≤ h) = false from decide_eq_false (fun k => h1 k.1)]
    go_enter Tryz.func72, Tryz.ntmps72
    go_wp2_with fail
    go_ret
    exact ⟨rfl, Below.refl _ _⟩


set_option maxRecDepth 100000 in
set_option maxHeartbeats 4000000 in
theorem r31_Good (A : Option Addr) (n c : Nat) (ri rc : Int) (w : World)
    (hc : ∀ W, Below w.heap.size w W → Calls Tryz.prog 30 #[.slice A n c] W fun e w' => e = .returned (.tuple #[.int .i64 ri, .int .i64 rc]) ∧ Below W.heap.size W w') :
    Calls Tryz.prog 78 #[.slice A n c] w fun e w' => e = .returned (.bool (rc == 0)) ∧ Below w.heap.size w w' := by
  have HC := Lib.hid hc
  clear hc
  cases e1 : (rc == 0)
  all_goals
    go_enter Tryz.func78, Tryz.ntmps78
    go_wp2_with fail
    refine (HC.out _ (Below.refl _ _)).mono ?_
    rintro e w1 ⟨rfl, hB⟩
    go_wp2_with fail
    go_ret
    exact ⟨rfl, hB⟩


set_option maxRecDepth 100000 in
set_option maxHeartbeats 4000000 in
theorem r31_Check (A : Option Addr) (b off n c : Nat) (S : Nat → Opn) (ri rc : Int) (w : World) (hn : n ≤ 64) (hA : 0 < n → A = some ⟨b, off, none⟩) (hS : OpsAt w b off n S) (hs : ∀ i, i < n → Sh6 (S i).pt)
    (hr0 : (∀ i, i < n → opC S i = 0) → ri = -1 ∧ rc = 0) (hr1 : ∀ i : Nat, i < n → (∀ j, j < i → opC S j = 0) → opC S i ≠ 0 → ri = (i : Int) ∧ rc = opC S i) :
    Calls Tryz.prog 30 #[.slice A n c] w fun e w' => e = .returned (.tuple #[.int .i64 ri, .int .i64 rc]) ∧ Below w.heap.size w w' := by
  have HS := Lib.hid hS
  have HA := Lib.hid hA
  clear hA
  have HZ := Lib.hid hs
  have HR0 := Lib.hid hr0
  have HR1 := Lib.hid hr1
  clear hS hs hr0 hr1
  have hn64 : ¬ (64 : Int) < (n : Int) := by omega
  go_enter Tryz.func30, Tryz.ntmps30
  go_wp2_with fail
  go_loopw [4] (fun x wr => ∃ k : Nat, k ≤ n ∧ x = .int .i64 k ∧ Below w.heap.size w wr ∧ Hid (∀ i, i < k → opC S i = 0)) (fun x _ => n - (intOf x).toNat)
  case atStart => exact ⟨0, Nat.zero_le _, rfl, Below.refl _ _, Lib.hid (fun i hi => absurd hi (by omega))⟩
  case round =>
    obtain ⟨k, hk, rfl, hB, HI⟩ := hrel
    by_cases hlt : k < n
    · have hAe := HA.out (by omega)
      subst hAe
      obtain ⟨c0, c1, c2, c3, c4, c5, c6⟩ := (HS.out.below hB) k hlt
      have HV := Lib.hid (fun W => r16_Vec (S k).pt W (HZ.out k hlt))
      unfold txW vW at HV
      have HP : Hid (0 < k → ∀ W, Below w.heap.size w W → W.cell? ⟨b, off + (k - 1) * 7, none⟩ = some (.int .i64 (S (k - 1)).id)) := Lib.hid (fun h0 W hb => ((HS.out.below hb) (k - 1) (by omega)).1)
      have J2 : Hid (¬ RngO (S k).id (S k).frm (S k).dst (S k).kind → ri = (k : Int) ∧ rc = 2) := Lib.hid (fun h => by
        have e : opC S k = 2 := by unfold opC; rw [if_pos h]
        have q := HR1.out k hlt HI.out (by rw [e]; decide)
        rwa [e] at q)
      have J5 : Hid (RngO (S k).id (S k).frm (S k).dst (S k).kind → 0 < k → (S k).id ≤ (S (k - 1)).id → ri = (k : Int) ∧ rc = 5) := Lib.hid (fun h h1 h2 => by
        have e : opC S k = 5 := by unfold opC; rw [if_neg (fun g => g h), if_pos ⟨h1, h2⟩]
        have q := HR1.out k hlt HI.out (by rw [e]; decide)
        rwa [e] at q)
      have J10 : Hid (RngO (S k).id (S k).frm (S k).dst (S k).kind → ¬ (0 < k ∧ (S k).id ≤ (S (k - 1)).id) → (S k).frm = (S k).dst → ri = (k : Int) ∧ rc = 10) := Lib.hid (fun h h1 h2 => by
        have e : opC S k = 10 := by unfold opC; rw [if_neg (fun g => g h), if_neg h1, if_pos h2]
        have q := HR1.out k hlt HI.out (by rw [e]; decide)
        rwa [e] at q)
      have J1 : Hid (RngO (S k).id (S k).frm (S k).dst (S k).kind → ¬ (0 < k ∧ (S k).id ≤ (S (k - 1)).id) → ¬ (S k).frm = (S k).dst → vvB (S k).pt = false → ri = (k : Int) ∧ rc = 1) := Lib.hid (fun h h1 h2 h3 => by
        have e : opC S k = 1 := by unfold opC; rw [if_neg (fun g => g h), if_neg h1, if_neg h2, h3]; rfl
        have q := HR1.out k hlt HI.out (by rw [e]; decide)
        rwa [e] at q)
      have J0 : Hid (RngO (S k).id (S k).frm (S k).dst (S k).kind → ¬ (0 < k ∧ (S k).id ≤ (S (k - 1)).id) → ¬ (S k).frm = (S k).dst → vvB (S k).pt = true → ∀ i, i < k + 1 → opC S i = 0) := Lib.hid (fun h h1 h2 h3 i hi => by
        by_cases e : i = k
        · rw [e]; unfold opC; rw [if_neg (fun g => g h), if_neg h1, if_neg h2, if_pos h3]
        · exact HI.out i (by omega))
      clear HI
      generalize (S k).id = a1 at *
      generalize (S k).frm = a2 at *
      generalize (S k).dst = a3 at *
      generalize (S k).kind = a4 at *
      generalize vvB (S k).pt = ok at *
      generalize vvX (S k).pt = vx at *
      generalize (S k).pt.1 = s1 at *
      generalize (S k).pt.2.1 = s2 at *
      generalize (S k).pt.2.2 = s3 at *
      generalize sgB vx.x.num = bx at *
      generalize sgB vx.y.num = by_ at *
      generalize sgB vx.z.num = bz at *
      go_upto_region 7 with fail
      generalize hW : World.alloc _ _ = V
      obtain ⟨hb, hsz, R5⟩ := A1 hW
      replace hB := bstep hB hb
      clear hb
      have R5 := Lib.hid R5
      clear hW hsz
      clear c0 c1 c2 c3 c4 c5 c6
      obtain ⟨q1, hq1⟩ : ∃ q, q = decide ((1 : Int) ≤ a1 ∧ a1 ≤ 9999) := ⟨_, rfl⟩
      obtain ⟨q2, hq2⟩ : ∃ q, q = decide ((0 : Int) ≤ a2 ∧ a2 ≤ 9999) := ⟨_, rfl⟩
      obtain ⟨q3, hq3⟩ : ∃ q, q = decide ((0 : Int) ≤ a3 ∧ a3 ≤ 9999) := ⟨_, rfl⟩
      obtain ⟨q4, hq4⟩ : ∃ q, q = decide ((1 : Int) ≤ a4 ∧ a4 ≤ 3) := ⟨_, rfl⟩
      have HW1 := Lib.hid (fun W => r31_within a1 1 9999 q1 W hq1)
      have HW2 := Lib.hid (fun W => r31_within a2 0 9999 q2 W hq2)
      have HW3 := Lib.hid (fun W => r31_within a3 0 9999 q3 W hq3)
      have HW4 := Lib.hid (fun W => r31_within a4 1 3 q4 W hq4)
      have HQ : Hid (RngO a1 a2 a3 a4 ↔ (q1 = true ∧ q2 = true ∧ q3 = true ∧ q4 = true)) := Lib.hid (by
        rw [hq1, hq2, hq3, hq4, decide_eq_true_iff, decide_eq_true_iff, decide_eq_true_iff, decide_eq_true_iff]
        unfold RngO
        omega)
      clear hq1 hq2 hq3 hq4
      cases q1
      · have HL := Lib.hid (J2.out (fun g => by have := (HQ.out.1 g).1; cases this))
        clear J2 J5 J10 J1 J0
        obtain ⟨R5c0, R5c1, R5c2, R5c3, R5c4, R5c5, R5c6, R5f0, R5f1, R5f2, R5f3, R5f4, R5f5, R5f6⟩ := row7 R5.out
        go_wp2_with fail
        clear R5c0 R5c1 R5c2 R5c3 R5c4 R5c5 R5c6 R5f0 R5f1 R5f2 R5f3 R5f4 R5f5 R5f6
        refine (HW1.out _).mono ?_
        rintro e v1 ⟨rfl, hb⟩
        replace hB := bstep hB hb
        have R5 := Lib.hid (keep hb R5.out)
        clear hb
        go_wp2_with fail
        go_ret2
        rw [HL.out.1, HL.out.2]
        exact ⟨rfl, hB⟩
      cases q2
      · have HL := Lib.hid (J2.out (fun g => by have := (HQ.out.1 g).2.1; cases this))
        clear J2 J5 J10 J1 J0
        obtain ⟨R5c0, R5c1, R5c2, R5c3, R5c4, R5c5, R5c6, R5f0, R5f1, R5f2, R5f3, R5f4, R5f5, R5f6⟩ := row7 R5.out
        go_wp2_with fail
        clear R5c0 R5c1 R5c2 R5c3 R5c4 R5c5 R5c6 R5f0 R5f1 R5f2 R5f3 R5f4 R5f5 R5f6
        refine (HW1.out _).mono ?_
        rintro e v1 ⟨rfl, hb⟩
        replace hB := bstep hB hb
        have R5 := Lib.hid (keep hb R5.out)
        clear hb
        obtain ⟨R5c0, R5c1, R5c2, R5c3, R5c4, R5c5, R5c6, R5f0, R5f1, R5f2, R5f3, R5f4, R5f5, R5f6⟩ := row7 R5.out
        go_wp2_with fail
        clear R5c0 R5c1 R5c2 R5c3 R5c4 R5c5 R5c6 R5f0 R5f1 R5f2 R5f3 R5f4 R5f5 R5f6
        refine (HW2.out _).mono ?_
        rintro e v2 ⟨rfl, hb⟩
        replace hB := bstep hB hb
        have R5 := Lib.hid (keep hb R5.out)
        clear hb
        go_wp2_with fail
        go_ret2
        rw [HL.out.1, HL.out.2]
        exact ⟨rfl, hB⟩
      cases q3
      · have HL := Lib.hid (J2.out (fun g => by have := (HQ.out.1 g).2.2.1; cases this))
        clear J2 J5 J10 J1 J0
        obtain ⟨R5c0, R5c1, R5c2, R5c3, R5c4, R5c5, R5c6, R5f0, R5f1, R5f2, R5f3, R5f4, R5f5, R5f6⟩ := row7 R5.out
        go_wp2_with fail
        clear R5c0 R5c1 R5c2 R5c3 R5c4 R5c5 R5c6 R5f0 R5f1 R5f2 R5f3 R5f4 R5f5 R5f6
        refine (HW1.out _).mono ?_
        rintro e v1 ⟨rfl, hb⟩
        replace hB := bstep hB hb
        have R5 := Lib.hid (keep hb R5.out)
        clear hb
        obtain ⟨R5c0, R5c1, R5c2, R5c3, R5c4, R5c5, R5c6, R5f0, R5f1, R5f2, R5f3, R5f4, R5f5, R5f6⟩ := row7 R5.out
        go_wp2_with fail
        clear R5c0 R5c1 R5c2 R5c3 R5c4 R5c5 R5c6 R5f0 R5f1 R5f2 R5f3 R5f4 R5f5 R5f6
        refine (HW2.out _).mono ?_
        rintro e v2 ⟨rfl, hb⟩
        replace hB := bstep hB hb
        have R5 := Lib.hid (keep hb R5.out)
        clear hb
        obtain ⟨R5c0, R5c1, R5c2, R5c3, R5c4, R5c5, R5c6, R5f0, R5f1, R5f2, R5f3, R5f4, R5f5, R5f6⟩ := row7 R5.out
        go_wp2_with fail
        clear R5c0 R5c1 R5c2 R5c3 R5c4 R5c5 R5c6 R5f0 R5f1 R5f2 R5f3 R5f4 R5f5 R5f6
        refine (HW3.out _).mono ?_
        rintro e v3 ⟨rfl, hb⟩
        replace hB := bstep hB hb
        have R5 := Lib.hid (keep hb R5.out)
        clear hb
        go_wp2_with fail
        go_ret2
        rw [HL.out.1, HL.out.2]
        exact ⟨rfl, hB⟩
      cases q4
      · have HL := Lib.hid (J2.out (fun g => by have := (HQ.out.1 g).2.2.2; cases this))
        clear J2 J5 J10 J1 J0
        obtain ⟨R5c0, R5c1, R5c2, R5c3, R5c4, R5c5, R5c6, R5f0, R5f1, R5f2, R5f3, R5f4, R5f5, R5f6⟩ := row7 R5.out
        go_wp2_with fail
        clear R5c0 R5c1 R5c2 R5c3 R5c4 R5c5 R5c6 R5f0 R5f1 R5f2 R5f3 R5f4 R5f5 R5f6
        refine (HW1.out _).mono ?_
        rintro e v1 ⟨rfl, hb⟩
        replace hB := bstep hB hb
        have R5 := Lib.hid (keep hb R5.out)
        clear hb
        obtain ⟨R5c0, R5c1, R5c2, R5c3, R5c4, R5c5, R5c6, R5f0, R5f1, R5f2, R5f3, R5f4, R5f5, R5f6⟩ := row7 R5.out
        go_wp2_with fail
        clear R5c0 R5c1 R5c2 R5c3 R5c4 R5c5 R5c6 R5f0 R5f1 R5f2 R5f3 R5f4 R5f5 R5f6
        refine (HW2.out _).mono ?_
        rintro e v2 ⟨rfl, hb⟩
        replace hB := bstep hB hb
        have R5 := Lib.hid (keep hb R5.out)
        clear hb
        obtain ⟨R5c0, R5c1, R5c2, R5c3, R5c4, R5c5, R5c6, R5f0, R5f1, R5f2, R5f3, R5f4, R5f5, R5f6⟩ := row7 R5.out
        go_wp2_with fail
        clear R5c0 R5c1 R5c2 R5c3 R5c4 R5c5 R5c6 R5f0 R5f1 R5f2 R5f3 R5f4 R5f5 R5f6
        refine (HW3.out _).mono ?_
        rintro e v3 ⟨rfl, hb⟩
        replace hB := bstep hB hb
        have R5 := Lib.hid (keep hb R5.out)
        clear hb
        obtain ⟨R5c0, R5c1, R5c2, R5c3, R5c4, R5c5, R5c6, R5f0, R5f1, R5f2, R5f3, R5f4, R5f5, R5f6⟩ := row7 R5.out
        go_wp2_with fail
        clear R5c0 R5c1 R5c2 R5c3 R5c4 R5c5 R5c6 R5f0 R5f1 R5f2 R5f3 R5f4 R5f5 R5f6
        refine (HW4.out _).mono ?_
        rintro e v4 ⟨rfl, hb⟩
        replace hB := bstep hB hb
        have R5 := Lib.hid (keep hb R5.out)
        clear hb
        go_wp2_with fail
        go_ret2
        rw [HL.out.1, HL.out.2]
        exact ⟨rfl, hB⟩
      have hg := HQ.out.2 ⟨rfl, rfl, rfl, rfl⟩
      clear J2 HQ
      have J5 := Lib.hid (J5.out hg)
      have J10 := Lib.hid (J10.out hg)
      have J1 := Lib.hid (J1.out hg)
      have J0 := Lib.hid (J0.out hg)
      clear hg
      obtain ⟨R5c0, R5c1, R5c2, R5c3, R5c4, R5c5, R5c6, R5f0, R5f1, R5f2, R5f3, R5f4, R5f5, R5f6⟩ := row7 R5.out
      go_wp2_with fail
      clear R5c0 R5c1 R5c2 R5c3 R5c4 R5c5 R5c6 R5f0 R5f1 R5f2 R5f3 R5f4 R5f5 R5f6
      refine (HW1.out _).mono ?_
      rintro e v1 ⟨rfl, hb⟩
      replace hB := bstep hB hb
      have R5 := Lib.hid (keep hb R5.out)
      clear hb
      obtain ⟨R5c0, R5c1, R5c2, R5c3, R5c4, R5c5, R5c6, R5f0, R5f1, R5f2, R5f3, R5f4, R5f5, R5f6⟩ := row7 R5.out
      go_wp2_with fail
      clear R5c0 R5c1 R5c2 R5c3 R5c4 R5c5 R5c6 R5f0 R5f1 R5f2 R5f3 R5f4 R5f5 R5f6
      refine (HW2.out _).mono ?_
      rintro e v2 ⟨rfl, hb⟩
      replace hB := bstep hB hb
      have R5 := Lib.hid (keep hb R5.out)
      clear hb
      obtain ⟨R5c0, R5c1, R5c2, R5c3, R5c4, R5c5, R5c6, R5f0, R5f1, R5f2, R5f3, R5f4, R5f5, R5f6⟩ := row7 R5.out
      go_wp2_with fail
      clear R5c0 R5c1 R5c2 R5c3 R5c4 R5c5 R5c6 R5f0 R5f1 R5f2 R5f3 R5f4 R5f5 R5f6
      refine (HW3.out _).mono ?_
      rintro e v3 ⟨rfl, hb⟩
      replace hB := bstep hB hb
      have R5 := Lib.hid (keep hb R5.out)
      clear hb
      obtain ⟨R5c0, R5c1, R5c2, R5c3, R5c4, R5c5, R5c6, R5f0, R5f1, R5f2, R5f3, R5f4, R5f5, R5f6⟩ := row7 R5.out
      go_wp2_with fail
      clear R5c0 R5c1 R5c2 R5c3 R5c4 R5c5 R5c6 R5f0 R5f1 R5f2 R5f3 R5f4 R5f5 R5f6
      refine (HW4.out _).mono ?_
      rintro e v4 ⟨rfl, hb⟩
      replace hB := bstep hB hb
      have R5 := Lib.hid (keep hb R5.out)
      clear hb
      clear HW1 HW2 HW3 HW4
      obtain ⟨R5c0, R5c1, R5c2, R5c3, R5c4, R5c5, R5c6, R5f0, R5f1, R5f2, R5f3, R5f4, R5f5, R5f6⟩ := row7 R5.out
      go_upto_region 9 with fail
      clear R5c0 R5c1 R5c2 R5c3 R5c4 R5c5 R5c6 R5f0 R5f1 R5f2 R5f3 R5f4 R5f5 R5f6
      rcases Nat.eq_zero_or_pos k with hk0 | hk0
      · subst hk0
        have J10 := Lib.hid (J10.out (fun h => absurd h.1 (by decide)))
        have J1 := Lib.hid (J1.out (fun h => absurd h.1 (by decide)))
        have J0 := Lib.hid (J0.out (fun h => absurd h.1 (by decide)))
        clear J5 HP
        obtain ⟨x0, x1, x2, x3, x4, x5, x6⟩ := rowc7 R5.out
        go_quiet (fail)
        clear x0 x1 x2 x3 x4 x5 x6
        generalize hV2 : World.drewN v4 _ = V2
        have hb2 : Below v4.heap.size v4 V2 := hV2 ▸ below_drewN (Below.refl _ _) _
        replace hB := bstep hB hb2
        have R5 := Lib.hid (keep hb2 R5.out)
        clear hb2 hV2
        by_cases h10 : a2 = a3
        · have HL := Lib.hid (J10.out h10)
          clear J10 J1 J0
          subst h10
          obtain ⟨R5c0, R5c1, R5c2, R5c3, R5c4, R5c5, R5c6, R5f0, R5f1, R5f2, R5f3, R5f4, R5f5, R5f6⟩ := row7 R5.out
          go_wp2_with fail
          go_ret2
          rw [HL.out.1, HL.out.2]
          exact ⟨rfl, hB⟩
        · have J1 := Lib.hid (J1.out h10)
          have J0 := Lib.hid (J0.out h10)
          clear J10
          have he : (a2 == a3) = false := by rw [beq_eq_false_iff_ne]; exact h10
          obtain ⟨R5c0, R5c1, R5c2, R5c3, R5c4, R5c5, R5c6, R5f0, R5f1, R5f2, R5f3, R5f4, R5f5, R5f6⟩ := row7 R5.out
          go_wp2_with fail
          clear R5c0 R5c1 R5c2 R5c3 R5c4 R5c5 R5c6 R5f0 R5f1 R5f2 R5f3 R5f4 R5f5 R5f6
          refine (HV.out _).mono ?_
          rintro e w2 ⟨u, rfl, _, hb⟩
          replace hB := bstep hB hb
          clear hb
          go_upto_region 14 with fail
          generalize hW : World.alloc _ _ = V3
          obtain ⟨hb, hsz, R6⟩ := A1 hW
          replace hB := bstep hB hb
          clear hb
          have R6 := Lib.hid R6
          clear hW hsz
          clear R6
          cases ok
          · have HL := Lib.hid (J1.out rfl)
            clear J1 J0
            go_wp2_with fail
            go_ret2
            rw [HL.out.1, HL.out.2]
            exact ⟨rfl, hB⟩
          · have HN := Lib.hid (J0.out rfl)
            clear J1 J0
            go_wp2_with fail
            go_roundw
            case rel => exact ⟨0 + 1, by omega, by go_num, hB, HN⟩
            case measure => simp [intOf]; omega
      · obtain ⟨m, rfl⟩ : ∃ m, k = m + 1 := ⟨k - 1, by omega⟩
        have hp := HP.out hk0 _ hB
        rw [show m + 1 - 1 = m from rfl] at hp
        have J5 := Lib.hid (J5.out hk0)
        rw [show m + 1 - 1 = m from rfl] at J5 J10 J1 J0
        generalize (S m).id = p1 at *
        have hidx : ((m + 1 : Nat) : Int) - 1 = (m : Int) := by omega
        have hg0 : decide ((0 : Int) < ((m + 1 : Nat) : Int)) = true := by rw [decide_eq_true_iff]; omega
        obtain ⟨x0, x1, x2, x3, x4, x5, x6⟩ := rowc7 R5.out
        by_cases hle : a1 ≤ p1
        · have HL := Lib.hid (J5.out hle)
          clear J5 J10 J1 J0 HP
          go_quiet (fail)
          go_wp2_with fail
          go_ret2
          rw [HL.out.1, HL.out.2]
          exact ⟨rfl, below_drewN hB _⟩
        · have J10 := Lib.hid (J10.out (fun h => hle h.2))
          have J1 := Lib.hid (J1.out (fun h => hle h.2))
          have J0 := Lib.hid (J0.out (fun h => hle h.2))
          clear J5 HP
          go_quiet (fail)
          clear x0 x1 x2 x3 x4 x5 x6 hp
          generalize hV2 : World.drewN v4 _ = V2
          have hb2 : Below v4.heap.size v4 V2 := hV2 ▸ below_drewN (Below.refl _ _) _
          replace hB := bstep hB hb2
          have R5 := Lib.hid (keep hb2 R5.out)
          clear hb2 hV2
          by_cases h10 : a2 = a3
          · have HL := Lib.hid (J10.out h10)
            clear J10 J1 J0
            subst h10
            obtain ⟨R5c0, R5c1, R5c2, R5c3, R5c4, R5c5, R5c6, R5f0, R5f1, R5f2, R5f3, R5f4, R5f5, R5f6⟩ := row7 R5.out
            go_wp2_with fail
            go_ret2
            rw [HL.out.1, HL.out.2]
            exact ⟨rfl, hB⟩
          · have J1 := Lib.hid (J1.out h10)
            have J0 := Lib.hid (J0.out h10)
            clear J10
            have he : (a2 == a3) = false := by rw [beq_eq_false_iff_ne]; exact h10
            obtain ⟨R5c0, R5c1, R5c2, R5c3, R5c4, R5c5, R5c6, R5f0, R5f1, R5f2, R5f3, R5f4, R5f5, R5f6⟩ := row7 R5.out
            go_wp2_with fail
            clear R5c0 R5c1 R5c2 R5c3 R5c4 R5c5 R5c6 R5f0 R5f1 R5f2 R5f3 R5f4 R5f5 R5f6
            refine (HV.out _).mono ?_
            rintro e w2 ⟨u, rfl, _, hb⟩
            replace hB := bstep hB hb
            clear hb
            go_upto_region 14 with fail
            generalize hW : World.alloc _ _ = V3
            obtain ⟨hb, hsz, R6⟩ := A1 hW
            replace hB := bstep hB hb
            clear hb
            have R6 := Lib.hid R6
            clear hW hsz
            clear R6
            cases ok
            · have HL := Lib.hid (J1.out rfl)
              clear J1 J0
              go_wp2_with fail
              go_ret2
              rw [HL.out.1, HL.out.2]
              exact ⟨rfl, hB⟩
            · have HN := Lib.hid (J0.out rfl)
              clear J1 J0
              go_wp2_with fail
              go_roundw
              case rel => exact ⟨(m + 1) + 1, by omega, by go_num, hB, HN⟩
              case measure => simp [intOf]; omega
    · have hkn : k = n := by omega
      have HV2 : Hid (ri = -1 ∧ rc = 0) := Lib.hid (HR0.out (fun i hi => HI.out i (by omega)))
      go_wp2_with fail
      go_ret2
      rw [HV2.out.1, HV2.out.2]
      exact ⟨rfl, hB⟩


set_option maxRecDepth 100000 in
set_option maxHeartbeats 4000000 in
theorem r31_Check_long (A : Option Addr) (n c : Nat) (w : World) (hn : 64 < n) :
    Calls Tryz.prog 30 #[.slice A n c] w fun e w' => e = .returned (.tuple #[.int .i64 (-1), .int .i64 8]) ∧ Below w.heap.size w w' := by
  have hn64 : (64 : Int) < (n : Int) := by omega
  go_enter Tryz.func30, Tryz.ntmps30
  go_wp2_with fail
  go_ret2
  exact ⟨rfl, Below.refl _ _⟩
/-- Three texts have at most 40 bytes. -/
def S40 (s : ByteArray × ByteArray × ByteArray) : Prop := s.1.size ≤ 40 ∧ s.2.1.size ≤ 40 ∧ s.2.2.size ≤ 40


set_option maxRecDepth 100000 in
set_option maxHeartbeats 4000000 in
theorem r31_Few (A : Option Addr) (b off n c : Nat) (S : Nat → Opn) (r : Bool) (w : World) (hn : n ≤ 9223372036854775807) (hA : 0 < n → A = some ⟨b, off, none⟩) (hS : OpsAt w b off n S) (hs : ∀ i, i < n → Mx (S i).pt)
    (hr0 : ((n ≤ 12 ∨ 64 < n) ∧ n ≤ 69) → (∀ i, i < n → S40 (S i).pt) → r = true) (hr1 : ¬ ((n ≤ 12 ∨ 64 < n) ∧ n ≤ 69) → r = false) (hr2 : (∃ i, i < n ∧ ¬ S40 (S i).pt) → r = false) :
    Calls Tryz.prog 28 #[.slice A n c] w fun e w' => e = .returned (.bool r) ∧ Below w.heap.size w w' := by
  have HS := Lib.hid hS
  have HA := Lib.hid hA
  have HZ := Lib.hid hs
  have HR0 := Lib.hid hr0
  have HR1 := Lib.hid hr1
  have HR2 := Lib.hid hr2
  clear hS hA hs hr0 hr1 hr2
  rcases (show (12 < n ∧ n ≤ 64) ∨ 69 < n ∨ ((n ≤ 12 ∨ 64 < n) ∧ n ≤ 69) by omega) with ⟨h1, h2⟩ | h1 | ⟨h1, h2⟩
  · have HN := Lib.hid (HR1.out (by omega))
    have g1 : (12 : Int) < (n : Int) := by omega
    have g2 : (n : Int) ≤ 64 := by omega
    clear h1 h2
    go_enter Tryz.func28, Tryz.ntmps28
    go_wp2_with fail
    go_ret
    rw [HN.out]
    exact ⟨rfl, Below.refl _ _⟩
  · have HN := Lib.hid (HR1.out (by omega))
    have g1 : (12 : Int) < (n : Int) := by omega
    have g2 : ¬ (n : Int) ≤ 64 := by omega
    have g3 : (69 : Int) < (n : Int) := by omega
    clear h1
    go_enter Tryz.func28, Tryz.ntmps28
    go_wp2_with fail
    go_ret
    rw [HN.out]
    exact ⟨rfl, Below.refl _ _⟩
  · have HR0 := Lib.hid (HR0.out ⟨h1, h2⟩)
    clear HR1
    have g3 : ¬ (69 : Int) < (n : Int) := by omega
    rcases h1 with h1 | h1
    · have g1 : ¬ (12 : Int) < (n : Int) := by omega
      clear h1 h2
      go_enter Tryz.func28, Tryz.ntmps28
      go_wp2_with fail
      go_loopw [3] (fun x wr => ∃ k : Nat, k ≤ n ∧ x = .int .i64 k ∧ Below w.heap.size w wr ∧ Hid (∀ i, i < k → S40 (S i).pt)) (fun x _ => n - (intOf x).toNat)
      case atStart => exact ⟨0, Nat.zero_le _, rfl, Below.refl _ _, Lib.hid (fun i hi => absurd hi (by omega))⟩
      case round =>
        obtain ⟨k, hk, rfl, hB, HI⟩ := hrel
        by_cases hlt : k < n
        · have hAe := HA.out (by omega)
          subst hAe
          obtain ⟨_, _, _, _, c4, c5, c6⟩ := (HS.out.below hB) k hlt
          have hz := HZ.out k hlt
          have HV := Lib.hid (fun W => r16_ShortV (S k).pt.1 (S k).pt.2.1 (S k).pt.2.2 W hz.1 hz.2.1 hz.2.2)
          have J1 : Hid ((decide ((S k).pt.1.size ≤ 40) && (decide ((S k).pt.2.1.size ≤ 40) && decide ((S k).pt.2.2.size ≤ 40))) = true → ∀ i, i < k + 1 → S40 (S i).pt) := Lib.hid (fun h i hi => by
            by_cases e : i = k
            · rw [e]
              simp only [Bool.and_eq_true, decide_eq_true_iff] at h
              exact h
            · exact HI.out i (by omega))
          have J0 : Hid ((decide ((S k).pt.1.size ≤ 40) && (decide ((S k).pt.2.1.size ≤ 40) && decide ((S k).pt.2.2.size ≤ 40))) = false → r = false) := Lib.hid (fun h => HR2.out ⟨k, hlt, fun q => by
            unfold S40 at q
            rw [decide_eq_true q.1, decide_eq_true q.2.1, decide_eq_true q.2.2] at h
            cases h⟩)
          clear HI hz
          generalize (decide ((S k).pt.1.size ≤ 40) && (decide ((S k).pt.2.1.size ≤ 40) && decide ((S k).pt.2.2.size ≤ 40))) = ok at *
          generalize (S k).pt.1 = s1 at *
          generalize (S k).pt.2.1 = s2 at *
          generalize (S k).pt.2.2 = s3 at *
          go_wp2_with fail
          refine (HV.out _).mono ?_
          rintro e w2 ⟨rfl, hb⟩
          replace hB := bstep hB hb
          clear hb
          clear c4 c5 c6
          cases ok
          · have HN := Lib.hid (J0.out rfl)
            clear J0 J1
            go_wp2_with fail
            go_ret
            rw [HN.out]
            exact ⟨rfl, hB⟩
          · have HN := Lib.hid (J1.out rfl)
            clear J0 J1
            go_wp2_with fail
            go_roundw
            case rel => exact ⟨k + 1, by omega, by go_num, hB, HN⟩
            case measure => simp [intOf]; omega
        · have hkn : k = n := by omega
          have HN : Hid (r = true) := Lib.hid (HR0.out (fun i hi => HI.out i (by omega)))
          go_wp2_with fail
          go_ret
          rw [HN.out]
          exact ⟨rfl, hB⟩
    · have g1 : (12 : Int) < (n : Int) := by omega
      have g2 : ¬ (n : Int) ≤ 64 := by omega
      clear h1 h2
      go_enter Tryz.func28, Tryz.ntmps28
      go_wp2_with fail
      go_loopw [3] (fun x wr => ∃ k : Nat, k ≤ n ∧ x = .int .i64 k ∧ Below w.heap.size w wr ∧ Hid (∀ i, i < k → S40 (S i).pt)) (fun x _ => n - (intOf x).toNat)
      case atStart => exact ⟨0, Nat.zero_le _, rfl, Below.refl _ _, Lib.hid (fun i hi => absurd hi (by omega))⟩
      case round =>
        obtain ⟨k, hk, rfl, hB, HI⟩ := hrel
        by_cases hlt : k < n
        · have hAe := HA.out (by omega)
          subst hAe
          obtain ⟨_, _, _, _, c4, c5, c6⟩ := (HS.out.below hB) k hlt
          have hz := HZ.out k hlt
          have HV := Lib.hid (fun W => r16_ShortV (S k).pt.1 (S k).pt.2.1 (S k).pt.2.2 W hz.1 hz.2.1 hz.2.2)
          have J1 : Hid ((decide ((S k).pt.1.size ≤ 40) && (decide ((S k).pt.2.1.size ≤ 40) && decide ((S k).pt.2.2.size ≤ 40))) = true → ∀ i, i < k + 1 → S40 (S i).pt) := Lib.hid (fun h i hi => by
            by_cases e : i = k
            · rw [e]
              simp only [Bool.and_eq_true, decide_eq_true_iff] at h
              exact h
            · exact HI.out i (by omega))
          have J0 : Hid ((decide ((S k).pt.1.size ≤ 40) && (decide ((S k).pt.2.1.size ≤ 40) && decide ((S k).pt.2.2.size ≤ 40))) = false → r = false) := Lib.hid (fun h => HR2.out ⟨k, hlt, fun q => by
            unfold S40 at q
            rw [decide_eq_true q.1, decide_eq_true q.2.1, decide_eq_true q.2.2] at h
            cases h⟩)
          clear HI hz
          generalize (decide ((S k).pt.1.size ≤ 40) && (decide ((S k).pt.2.1.size ≤ 40) && decide ((S k).pt.2.2.size ≤ 40))) = ok at *
          generalize (S k).pt.1 = s1 at *
          generalize (S k).pt.2.1 = s2 at *
          generalize (S k).pt.2.2 = s3 at *
          go_wp2_with fail
          refine (HV.out _).mono ?_
          rintro e w2 ⟨rfl, hb⟩
          replace hB := bstep hB hb
          clear hb
          clear c4 c5 c6
          cases ok
          · have HN := Lib.hid (J0.out rfl)
            clear J0 J1
            go_wp2_with fail
            go_ret
            rw [HN.out]
            exact ⟨rfl, hB⟩
          · have HN := Lib.hid (J1.out rfl)
            clear J0 J1
            go_wp2_with fail
            go_roundw
            case rel => exact ⟨k + 1, by omega, by go_num, hB, HN⟩
            case measure => simp [intOf]; omega
        · have hkn : k = n := by omega
          have HN : Hid (r = true) := Lib.hid (HR0.out (fun i hi => HI.out i (by omega)))
          go_wp2_with fail
          go_ret
          rw [HN.out]
          exact ⟨rfl, hB⟩

end Go.Proofs.YthkkdepppjiaeaaGreatDoor
