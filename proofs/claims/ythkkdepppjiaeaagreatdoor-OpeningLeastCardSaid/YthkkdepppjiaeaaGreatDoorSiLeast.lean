/- A PART OF THE PROOF, JOINED OUT OF 2 TEXTS. -/
import Derived.Test.YthkkdepppjiaeaaGreatDoorShHeights
/- The law OpeningLeast. -/
namespace Go.Proofs.YthkkdepppjiaeaaGreatDoor
open Go.RowKit Go.Shelf Go.Sort

attribute [local go_sem] Oper.semAt_some

theorem rowc4 {W : World} {g : Nat} {a b c d : Value} {t : TypeId} (h : W.heap[g]? = some (.cells #[a, b, c, d] t (0, 0))) : W.cell? ⟨g, 0, none⟩ = some a ∧ W.cell? ⟨g, 1, none⟩ = some b ∧ W.cell? ⟨g, 2, none⟩ = some c ∧ W.cell? ⟨g, 3, none⟩ = some d :=
  ⟨cell_of_row W _ 0 _ _ _ h, cell_of_row W _ 1 _ _ _ h, cell_of_row W _ 2 _ _ _ h, cell_of_row W _ 3 _ _ _ h⟩


set_option maxRecDepth 100000 in
set_option maxHeartbeats 4000000 in
theorem op_least1 (oi of ot ok : Int) (r0 r1 r2 : ByteArray) (b7 : Nat) (li : Int) (w : World) (h7 : w.heap[b7]? = some (.cells #[.int .i64 li] 3 (0, 0))) :
    Calls Tryz.prog 43 #[.agg #[.int .i64 oi, .int .i64 of, .int .i64 ot, .int .i64 ok, .string r0, .string r1, .string r2], .pointer (some ⟨b7, 0, none⟩)] w fun e w' => e = .returned (.bool (oi == li)) ∧ Below w.heap.size w w' := by
  have R7 := Lib.hid h7
  clear h7
  go_enter Tryz.func43, Tryz.ntmps43
  go_upto_region 1 with fail
  generalize hW : World.alloc w _ = W
  obtain ⟨hB, hsz, R2⟩ := A1 hW
  have R7 := Lib.hid (keep hB R7.out)
  obtain ⟨c0, c1, c2, c3, c4, c5, c6⟩ := rowc7 R2
  obtain ⟨x0, x1⟩ := row1 R7.out
  clear R2 hW hsz
  go_wp2_with fail
  go_ret
  exact ⟨rfl, hB⟩


set_option maxRecDepth 100000 in
set_option maxHeartbeats 4000000 in
theorem ix_opn (A : Option Addr) (b off n c : Nat) (S : Nat → Opn) (b7 i0 : Nat) (li : Int) (w : World) (hn : n ≤ 9223372036854775807) (hA : 0 < n → A = some ⟨b, off, none⟩) (hS : OpsAt w b off n S) (h7 : w.heap[b7]? = some (.cells #[.int .i64 li] 3 (0, 0))) (hi : i0 < n) (h0 : (S i0).id = li) (h1 : ∀ i, i < i0 → (S i).id ≠ li) :
    Calls Tryz.prog 42 #[.slice A n c, .func (.func 43) #[] #[.pointer (some ⟨b7, 0, none⟩)]] w fun e w' => e = .returned (.int .i64 i0) ∧ Below w.heap.size w w' := by
  have HS := Lib.hid hS
  have HA := Lib.hid hA
  have H7 := Lib.hid h7
  have HF := Lib.hid (fun i W b7 h => op_least1 (S i).id (S i).frm (S i).dst (S i).kind (S i).pt.1 (S i).pt.2.1 (S i).pt.2.2 b7 li W h)
  have H0 := Lib.hid h0
  have H1 := Lib.hid h1
  clear hS hA h7 h0 h1
  go_enter Tryz.func42, Tryz.ntmps42
  go_wp2_with fail
  go_loopw [8] (fun x wr => ∃ k : Nat, k ≤ i0 ∧ x = .int .i64 k ∧ Below w.heap.size w wr) (fun x _ => n - (intOf x).toNat)
  case atStart => exact ⟨0, Nat.zero_le _, rfl, Below.refl _ _⟩
  case round =>
    obtain ⟨k, hk, rfl, hB⟩ := hrel
    have hlt : k < n := by omega
    have hAe := HA.out (by omega)
    subst hAe
    obtain ⟨c0, c1, c2, c3, c4, c5, c6⟩ := (HS.out.below hB) k hlt
    have HFk := Lib.hid (fun W b7 h => HF.out k W b7 h)
    have J1 : Hid ((S k).id = li → k = i0) := Lib.hid (fun h => by
      by_cases e : k < i0
      · exact absurd h (H1.out k e)
      · omega)
    have J0 : Hid (¬ (S k).id = li → k < i0) := Lib.hid (fun h => by
      by_cases e : k = i0
      · rw [e] at h; exact absurd H0.out h
      · omega)
    generalize (S k).id = a1 at *
    generalize (S k).frm = a2 at *
    generalize (S k).dst = a3 at *
    generalize (S k).kind = a4 at *
    generalize (S k).pt.1 = s1 at *
    generalize (S k).pt.2.1 = s2 at *
    generalize (S k).pt.2.2 = s3 at *
    go_wp2_with fail
    clear c0 c1 c2 c3 c4 c5 c6
    refine (HFk.out _ _ (keep hB H7.out)).mono ?_
    rintro e w5 ⟨rfl, hb⟩
    replace hB := bstep hB hb
    clear hb HFk
    by_cases hq : a1 = li
    · have hz := J1.out hq
      have hq1 : (a1 == li) = true := by rw [beq_iff_eq]; exact hq
      clear J1 J0 hq
      subst hz
      go_wp2_with fail
      go_ret
      exact ⟨rfl, hB⟩
    · have hz := J0.out hq
      have hq1 : (a1 == li) = false := by rw [beq_eq_false_iff_ne]; exact hq
      clear J1 J0 hq
      go_wp2_with fail
      go_roundw
      case rel => exact ⟨k + 1, by omega, by go_num, hB⟩
      case measure => simp [intOf]; omega


set_option maxRecDepth 100000 in
set_option maxHeartbeats 4000000 in
theorem la31_lst_no (A : Option Addr) (n c : Nat) (h t lo hi : ByteArray) (m b1 b2 : Bool) (w : World) (hE : Env w) (hr : (b1 && b2) = false)
    (hf : ∀ W, Below w.heap.size w W → Calls Tryz.prog 28 #[.slice A n c] W fun e w' => e = .returned (.bool b1) ∧ Below W.heap.size W w')
    (hp : ∀ W, Below w.heap.size w W → Calls Tryz.prog 12 #[.agg #[.string h, .string t, .string lo, .string hi]] W fun e w' => e = .returned (.bool b2) ∧ Below W.heap.size W w') :
    Calls Tryz.prog 8 #[.slice A n c, .agg #[.string h, .string t, .string lo, .string hi], .bool m] w fun e w' => e = .returned (.bool true) ∧ Below w.heap.size w w' := by
  have HF := Lib.hid hf
  have HP := Lib.hid hp
  have HE := Lib.hid hE
  clear hE hf hp

  cases b1
  · clear hr
    go_enter Tryz.func8, Tryz.ntmps8
    go_upto_region 1 with fail
    generalize hW : World.alloc w _ = W
    obtain ⟨hB, hsz, R4⟩ := A1 hW
    have R4 := Lib.hid R4
    clear hW hsz
    go_wp2_with fail
    refine (la31_awake _ (HE.out.below hB)).mono ?_
    rintro e w1 ⟨rfl, hb⟩
    replace hB := bstep hB hb
    have R4 := Lib.hid (keep hb R4.out)
    clear hb
    go_wp2_with fail
    refine (HF.out _ hB).mono ?_
    rintro e w2 ⟨rfl, hb⟩
    replace hB := bstep hB hb
    have R4 := Lib.hid (keep hb R4.out)
    clear hb
    go_wp2_with fail
    go_ret
    exact ⟨rfl, hB⟩
  · obtain rfl : b2 = false := by simpa using hr
    clear hr
    go_enter Tryz.func8, Tryz.ntmps8
    go_upto_region 1 with fail
    generalize hW : World.alloc w _ = W
    obtain ⟨hB, hsz, R4⟩ := A1 hW
    have R4 := Lib.hid R4
    clear hW hsz
    go_wp2_with fail
    refine (la31_awake _ (HE.out.below hB)).mono ?_
    rintro e w1 ⟨rfl, hb⟩
    replace hB := bstep hB hb
    have R4 := Lib.hid (keep hb R4.out)
    clear hb
    go_wp2_with fail
    refine (HF.out _ hB).mono ?_
    rintro e w2 ⟨rfl, hb⟩
    replace hB := bstep hB hb
    have R4 := Lib.hid (keep hb R4.out)
    clear hb
    obtain ⟨R4c0, R4c1, R4c2, R4c3, R4f0, R4f1, R4f2, R4f3⟩ := row4 R4.out
    go_wp2_with fail
    clear R4c0 R4c1 R4c2 R4c3 R4f0 R4f1 R4f2 R4f3
    refine (HP.out _ hB).mono ?_
    rintro e w4 ⟨rfl, hb⟩
    replace hB := bstep hB hb
    have R4 := Lib.hid (keep hb R4.out)
    clear hb
    go_wp2_with fail
    go_ret
    exact ⟨rfl, hB⟩


set_option maxRecDepth 100000 in
set_option maxHeartbeats 4000000 in
theorem la31_lst_err (A : Option Addr) (n c : Nat) (h t lo hi : ByteArray) (m : Bool) (lc : Int) (w : World) (hE : Env w) (hc1 : (lc != 0) = true)
    (hf : ∀ W, Below w.heap.size w W → Calls Tryz.prog 28 #[.slice A n c] W fun e w' => e = .returned (.bool true) ∧ Below W.heap.size W w')
    (hp : ∀ W, Below w.heap.size w W → Calls Tryz.prog 12 #[.agg #[.string h, .string t, .string lo, .string hi]] W fun e w' => e = .returned (.bool true) ∧ Below W.heap.size W w')
    (hl : ∀ W, Below w.heap.size w W → Calls Tryz.prog 35 #[.slice A n c, .agg #[.string h, .string t], .bool m] W fun e w' => e = .returned (.tuple #[.int .i64 0, .string ⟨#[]⟩, .int .i64 lc]) ∧ Below W.heap.size W w') :
    Calls Tryz.prog 8 #[.slice A n c, .agg #[.string h, .string t, .string lo, .string hi], .bool m] w fun e w' => e = .returned (.bool true) ∧ Below w.heap.size w w' := by
  have HF := Lib.hid hf
  have HP := Lib.hid hp
  have HL := Lib.hid hl
  have HE := Lib.hid hE
  clear hE hf hp hl

  go_enter Tryz.func8, Tryz.ntmps8
  go_upto_region 1 with fail
  generalize hW : World.alloc w _ = W
  obtain ⟨hB, hsz, R4⟩ := A1 hW
  have R4 := Lib.hid R4
  clear hW hsz
  go_wp2_with fail
  refine (la31_awake _ (HE.out.below hB)).mono ?_
  rintro e w1 ⟨rfl, hb⟩
  replace hB := bstep hB hb
  have R4 := Lib.hid (keep hb R4.out)
  clear hb
  go_wp2_with fail
  refine (HF.out _ hB).mono ?_
  rintro e w2 ⟨rfl, hb⟩
  replace hB := bstep hB hb
  have R4 := Lib.hid (keep hb R4.out)
  clear hb
  obtain ⟨R4c0, R4c1, R4c2, R4c3, R4f0, R4f1, R4f2, R4f3⟩ := row4 R4.out
  go_wp2_with fail
  clear R4c0 R4c1 R4c2 R4c3 R4f0 R4f1 R4f2 R4f3
  refine (HP.out _ hB).mono ?_
  rintro e w4 ⟨rfl, hb⟩
  replace hB := bstep hB hb
  have R4 := Lib.hid (keep hb R4.out)
  clear hb
  obtain ⟨R4c0, R4c1, R4c2, R4c3, R4f0, R4f1, R4f2, R4f3⟩ := row4 R4.out
  go_wp2_with fail
  clear R4c0 R4c1 R4c2 R4c3 R4f0 R4f1 R4f2 R4f3
  refine (HL.out _ hB).mono ?_
  rintro e w5 ⟨rfl, hb⟩
  replace hB := bstep hB hb
  have R4 := Lib.hid (keep hb R4.out)
  clear hb
  go_upto_region 6 with fail
  generalize hW : World.alloc _ _ = V
  obtain ⟨hb, hsz, R7⟩ := A1 hW
  replace hB := bstep hB hb
  have R4 := Lib.hid (keep hb R4.out)
  clear hb
  have R7 := Lib.hid R7
  clear hW hsz
  obtain ⟨R7c0, R7f0⟩ := row1 R7.out
  go_wp2_with fail
  go_ret
  exact ⟨rfl, hB⟩


set_option maxRecDepth 100000 in
set_option maxHeartbeats 16000000 in
theorem la31_lst_go (A : Option Addr) (b off n c i0 : Nat) (S : Nat → Opn) (h t lo hi ut : ByteArray) (m : Bool) (li cc : Int) (lx : Rat) (U : Nat → ByteArray) (x : Nat → Rat) (z v : Nat → Int) (w : World) (hE : Env w) (hn : n ≤ 9223372036854775807) (hA : 0 < n → A = some ⟨b, off, none⟩) (hS : OpsAt w b off n S) (hin : i0 < n)
    (hj : ∀ k, k < n → psB (S k).kind m = true → 0 ≤ z k ∧ (z k = 0 → i0 ≤ k) ∧ (k = i0 → U k = ut) ∧ (cc = 0 → v k ≤ v i0))
    (hf : ∀ W, Below w.heap.size w W → Calls Tryz.prog 28 #[.slice A n c] W fun e w' => e = .returned (.bool true) ∧ Below W.heap.size W w')
    (hp : ∀ W, Below w.heap.size w W → Calls Tryz.prog 12 #[.agg #[.string h, .string t, .string lo, .string hi]] W fun e w' => e = .returned (.bool true) ∧ Below W.heap.size W w')
    (hl : ∀ W, Below w.heap.size w W → Calls Tryz.prog 35 #[.slice A n c, .agg #[.string h, .string t], .bool m] W fun e w' => e = .returned (.tuple #[.int .i64 li, .string ut, .int .i64 0]) ∧ Below W.heap.size W w')
    (hi_ : ∀ W b7, Below w.heap.size w W → W.heap[b7]? = some (.cells #[.int .i64 li] 3 (0, 0)) → Calls Tryz.prog 42 #[.slice A n c, .func (.func 43) #[] #[.pointer (some ⟨b7, 0, none⟩)]] W fun e w' => e = .returned (.int .i64 i0) ∧ Below W.heap.size W w')
    (hx : ∀ W, Calls Tryz.prog 15 #[.string ut] W fun e w' => ∃ p d : Sl, e = .returned (.tuple #[qW (sgB (lx).num) p d, .bool true]) ∧ RQ w' p d (lx) ∧ Below W.heap.size W w')
    (hps : ∀ W, Calls Tryz.prog 31 #[.agg #[.int .i64 (S i0).id, .int .i64 (S i0).frm, .int .i64 (S i0).dst, .int .i64 (S i0).kind, .string (S i0).pt.1, .string (S i0).pt.2.1, .string (S i0).pt.2.2], .bool m] W fun e w' => e = .returned (.bool true) ∧ Below W.heap.size W w')
    (hw : ∀ k, k < n → ∀ W, Below w.heap.size w W → Calls Tryz.prog 14 #[.agg #[.int .i64 (S k).id, .int .i64 (S k).frm, .int .i64 (S k).dst, .int .i64 (S k).kind, .string (S k).pt.1, .string (S k).pt.2.1, .string (S k).pt.2.2], .agg #[.string h, .string t, .string lo, .string hi]] W fun e w' => e = .returned (.tuple #[.int .i64 (v k), .int .i64 cc]) ∧ Below W.heap.size W w')
    (hh : ∀ k, k < n → ∀ W, Below w.heap.size w W → Calls Tryz.prog 18 #[.agg #[.int .i64 (S k).id, .int .i64 (S k).frm, .int .i64 (S k).dst, .int .i64 (S k).kind, .string (S k).pt.1, .string (S k).pt.2.1, .string (S k).pt.2.2], .agg #[.string h, .string t]] W fun e w' => e = .returned (.tuple #[.string (U k), .int .i64 0]) ∧ Below W.heap.size W w')
    (hu : ∀ k, k < n → ∀ W, Calls Tryz.prog 15 #[.string (U k)] W fun e w' => ∃ p d : Sl, e = .returned (.tuple #[qW (sgB (x k).num) p d, .bool true]) ∧ RQ w' p d (x k) ∧ Below W.heap.size W w')
    (hc : ∀ k, k < n → ∀ W a b c d, RQ W a b (x k) → RQ W c d lx → Calls Tryz.prog 44 #[qW (sgB (x k).num) a b, qW (sgB lx.num) c d] W fun e w' => e = .returned (.int .i64 (z k)) ∧ Below W.heap.size W w') :
    Calls Tryz.prog 8 #[.slice A n c, .agg #[.string h, .string t, .string lo, .string hi], .bool m] w fun e w' => e = .returned (.bool true) ∧ Below w.heap.size w w' := by
  have HF := Lib.hid hf
  have HP := Lib.hid hp
  have HL := Lib.hid hl
  have HI := Lib.hid hi_
  have HX := Lib.hid hx
  have HPS := Lib.hid hps
  have HW := Lib.hid hw
  have HH := Lib.hid hh
  have HU := Lib.hid hu
  have HC := Lib.hid hc
  have HJ := Lib.hid hj
  have HIN := Lib.hid hin
  have HS := Lib.hid hS
  have HA := Lib.hid hA
  have HE := Lib.hid hE
  clear hf hp hl hi_ hx hps hw hh hu hc hj hin hS hA hE
  go_enter Tryz.func8, Tryz.ntmps8
  go_upto_region 1 with fail
  generalize hW : World.alloc w _ = W
  obtain ⟨hB, hsz, R4⟩ := A1 hW
  have R4 := Lib.hid R4
  clear hW hsz
  go_wp2_with fail
  refine (la31_awake _ (HE.out.below hB)).mono ?_
  rintro e w1 ⟨rfl, hb⟩
  replace hB := bstep hB hb
  have R4 := Lib.hid (keep hb R4.out)
  clear hb
  go_wp2_with fail
  refine (HF.out _ hB).mono ?_
  rintro e w2 ⟨rfl, hb⟩
  replace hB := bstep hB hb
  have R4 := Lib.hid (keep hb R4.out)
  clear hb
  obtain ⟨R4c0, R4c1, R4c2, R4c3, R4f0, R4f1, R4f2, R4f3⟩ := row4 R4.out
  go_wp2_with fail
  clear R4c0 R4c1 R4c2 R4c3 R4f0 R4f1 R4f2 R4f3
  refine (HP.out _ hB).mono ?_
  rintro e w4 ⟨rfl, hb⟩
  replace hB := bstep hB hb
  have R4 := Lib.hid (keep hb R4.out)
  clear hb
  obtain ⟨R4c0, R4c1, R4c2, R4c3, R4f0, R4f1, R4f2, R4f3⟩ := row4 R4.out
  go_wp2_with fail
  clear R4c0 R4c1 R4c2 R4c3 R4f0 R4f1 R4f2 R4f3
  refine (HL.out _ hB).mono ?_
  rintro e w5 ⟨rfl, hb⟩
  replace hB := bstep hB hb
  have R4 := Lib.hid (keep hb R4.out)
  clear hb
  go_upto_region 6 with fail
  generalize hW : World.alloc _ _ = V
  obtain ⟨hb, hsz, R7⟩ := A1 hW
  replace hB := bstep hB hb
  have R4 := Lib.hid (keep hb R4.out)
  clear hb
  have R7 := Lib.hid R7
  clear hW hsz
  go_wp2_with fail
  refine (HI.out _ _ hB R7.out).mono ?_
  rintro e w6 ⟨rfl, hb⟩
  replace hB := bstep hB hb
  have R4 := Lib.hid (keep hb R4.out)
  clear hb R7
  go_wp2_with fail
  refine (HX.out _).mono ?_
  rintro e w7 ⟨pl, dl, rfl, kl, hb⟩
  replace hB := bstep hB hb
  have R4 := Lib.hid (keep hb R4.out)
  have KL := Lib.hid kl
  clear kl
  clear hb
  go_upto_region 10 with fail
  generalize hW : World.alloc _ _ = V2
  obtain ⟨hb, hsz, R11⟩ := A1 hW
  replace hB := bstep hB hb
  have R4 := Lib.hid (keep hb R4.out)
  have KL := Lib.hid (KL.out.below hb)
  clear hb
  have R11 := Lib.hid R11
  clear hW hsz
  have i1 : ¬ (i0 : Int) < 0 := by omega
  have i2 : i0 < n := HIN.out
  have hAe := HA.out (by omega)
  subst hAe
  obtain ⟨c0, c1, c2, c3, c4, c5, c6⟩ := (HS.out.below hB) i0 HIN.out
  go_wp2_with fail
  clear c0 c1 c2 c3 c4 c5 c6
  refine (HPS.out _).mono ?_
  rintro e V3 ⟨rfl, hb⟩
  replace hB := bstep hB hb
  have R4 := Lib.hid (keep hb R4.out)
  have R11 := Lib.hid (keep hb R11.out)
  have KL := Lib.hid (KL.out.below hb)
  clear hb
  obtain ⟨c0, c1, c2, c3, c4, c5, c6⟩ := (HS.out.below hB) i0 HIN.out
  have Q1 := Lib.hid (fun W (hb : Below V3.heap.size V3 W) => HW.out i0 HIN.out W (bstep hB hb))
  go_upto_region 12 with fail
  have LC0 := fun (w' : World) (h : Ap V3.heap.size V3.heap.size V3 w') => h.cellV c0
  have LC1 := fun (w' : World) (h : Ap V3.heap.size V3.heap.size V3 w') => h.cellV c1
  have LC2 := fun (w' : World) (h : Ap V3.heap.size V3.heap.size V3 w') => h.cellV c2
  have LC3 := fun (w' : World) (h : Ap V3.heap.size V3.heap.size V3 w') => h.cellV c3
  have LC4 := fun (w' : World) (h : Ap V3.heap.size V3.heap.size V3 w') => h.cellV c4
  have LC5 := fun (w' : World) (h : Ap V3.heap.size V3.heap.size V3 w') => h.cellV c5
  have LC6 := fun (w' : World) (h : Ap V3.heap.size V3.heap.size V3 w') => h.cellV c6
  have LR4 := fun (w' : World) (h : Ap V3.heap.size V3.heap.size V3 w') => rowc4 (h.rowV R4.out)
  have hvr := Below.refl V3.heap.size V3
  have hv0 := hvr.drew
  first
  | go_region_held3 (fun w' => Ap V3.heap.size V3.heap.size V3 w') (first | (with_reducible assumption) | (with_reducible exact Ap.refl _ _ _) | ((repeat (first | with_reducible assumption | with_reducible exact Ap.refl _ _ _ | with_reducible refine Ap.drew ?_ | with_reducible refine Ap.alloc ?_ | with_reducible refine Ap.set1 ?_ | with_reducible refine Ap.set2 ?_ | with_reducible refine Ap.setN (by first | with_reducible assumption | with_reducible exact Nat.le_refl _ | with_reducible exact Nat.le_add_right _ _ | with_reducible exact Nat.le_trans (by assumption) (Nat.le_add_right _ _)) ?_)); done))
      (first
        | (go_at_call 14; (with_reducible refine (Q1.out _ (by first | with_reducible exact hv0)).mono ?_); rintro e wq0 ⟨rfl, hb⟩; have hv1 : Below V3.heap.size V3 wq0 := (by first | with_reducible exact bstep (hv0) hb); have hs1 := Ap.of_below (g := V3.heap.size) (h := V3.heap.size) hv1; have sz1 := hv1.size; have KL := Lib.hid (by first | with_reducible exact KL.out.below hb | with_reducible exact (KL.out.below (Below.drew (Below.refl _ _))).below hb); clear hb))
  | fail
  all_goals
    clear LC0 LC1 LC2 LC3 LC4 LC5 LC6 LR4 c0 c1 c2 c3 c4 c5 c6 Q1
    replace hB := bstep hB hv1
    have R4 := Lib.hid (keep hv1 R4.out)
    have R11 := Lib.hid (keep hv1 R11.out)
    go_wp2_with fail
    go_loopw [85] (fun x wr => ∃ k : Nat, k ≤ n ∧ x = .int .i64 k ∧ Below w.heap.size w wr ∧ Hid (wr.heap[w.heap.size]? = some (.cells #[.string h, .string t, .string lo, .string hi] 32 (0, 0))) ∧ Hid (wr.heap[w7.heap.size]? = some (.cells #[.bool (sgB lx.num), .slice pl.A pl.n pl.c, .slice dl.A dl.n dl.c] 45 (0, 0))) ∧ Hid (RQ wr pl dl lx)) (fun x _ => n - (intOf x).toNat)
    case atStart => exact ⟨0, Nat.zero_le _, rfl, hB, R4, R11, KL⟩
    case round =>
      clear hB R4 R11 KL
      (try clear hvr hv0 hv1 hs1 sz1)
      obtain ⟨k, hk, rfl, hB, R4, R11, KL⟩ := hrel
      by_cases hlt : k < n
      · obtain ⟨c0, c1, c2, c3, c4, c5, c6⟩ := (HS.out.below hB) k hlt
        have P1 := Lib.hid (fun W => op_Passes (S k).id (S k).frm (S k).dst (S k).kind (S k).pt.1 (S k).pt.2.1 (S k).pt.2.2 m W)
        have P2 := Lib.hid (HH.out k hlt)
        have P3 := Lib.hid (HU.out k hlt)
        have P4 := Lib.hid (fun W a b c d k1 k2 => HC.out k hlt W a b c d k1 k2)
        have P5 := Lib.hid (HW.out k hlt)
        have J := Lib.hid (HJ.out k hlt)
        generalize psB (S k).kind m = q at *
        generalize hvk : v k = vk at *
        clear hvk
        generalize z k = zk at *
        generalize x k = xk at *
        generalize U k = uk at *
        generalize (S k).id = a1 at *
        generalize (S k).frm = a2 at *
        generalize (S k).dst = a3 at *
        generalize (S k).kind = a4 at *
        generalize (S k).pt.1 = s1 at *
        generalize (S k).pt.2.1 = s2 at *
        generalize (S k).pt.2.2 = s3 at *
        go_upto_region 16 with fail
        generalize hW : World.alloc _ _ = V4
        obtain ⟨hb, hsz, R16⟩ := A1 hW
        replace hB := bstep hB hb
        have R4 := Lib.hid (keep hb R4.out)
        have R11 := Lib.hid (keep hb R11.out)
        have KL := Lib.hid (KL.out.below hb)
        clear hb
        have R16 := Lib.hid R16
        clear hW hsz
        clear c0 c1 c2 c3 c4 c5 c6
        obtain ⟨R16c0, R16c1, R16c2, R16c3, R16c4, R16c5, R16c6, R16f0, R16f1, R16f2, R16f3, R16f4, R16f5, R16f6⟩ := row7 R16.out
        go_wp2_with fail
        clear R16c0 R16c1 R16c2 R16c3 R16c4 R16c5 R16c6 R16f0 R16f1 R16f2 R16f3 R16f4 R16f5 R16f6
        refine (P1.out _).mono ?_
        rintro e y1 ⟨rfl, hb⟩
        replace hB := bstep hB hb
        have R4 := Lib.hid (keep hb R4.out)
        have R11 := Lib.hid (keep hb R11.out)
        have R16 := Lib.hid (keep hb R16.out)
        have KL := Lib.hid (KL.out.below hb)
        clear hb
        cases q
        · clear J
          go_wp2_with fail
          go_roundw
          case rel => exact ⟨k + 1, by omega, by go_num, hB, R4, R11, KL⟩
          case measure => simp [intOf]; omega
        · have J9 := Lib.hid (J.out rfl)
          clear J
          obtain ⟨R16c0, R16c1, R16c2, R16c3, R16c4, R16c5, R16c6, R16f0, R16f1, R16f2, R16f3, R16f4, R16f5, R16f6⟩ := row7 R16.out
          obtain ⟨R4c0, R4c1, R4c2, R4c3, R4f0, R4f1, R4f2, R4f3⟩ := row4 R4.out
          go_wp2_with fail
          clear R16c0 R16c1 R16c2 R16c3 R16c4 R16c5 R16c6 R16f0 R16f1 R16f2 R16f3 R16f4 R16f5 R16f6
          clear R4c0 R4c1 R4c2 R4c3 R4f0 R4f1 R4f2 R4f3
          refine (P2.out _ hB).mono ?_
          rintro e y2 ⟨rfl, hb⟩
          replace hB := bstep hB hb
          have R4 := Lib.hid (keep hb R4.out)
          have R11 := Lib.hid (keep hb R11.out)
          have R16 := Lib.hid (keep hb R16.out)
          have KL := Lib.hid (KL.out.below hb)
          clear hb
          go_wp2_with fail
          refine (P3.out _).mono ?_
          rintro e y3 ⟨pk, dk, rfl, kk, hb⟩
          replace hB := bstep hB hb
          have R4 := Lib.hid (keep hb R4.out)
          have R11 := Lib.hid (keep hb R11.out)
          have R16 := Lib.hid (keep hb R16.out)
          have KL := Lib.hid (KL.out.below hb)
          have KK := Lib.hid kk
          clear kk
          clear hb
          go_upto_region 19 with fail
          generalize hW : World.alloc _ _ = V5
          obtain ⟨hb, hsz, R19⟩ := A1 hW
          replace hB := bstep hB hb
          have R4 := Lib.hid (keep hb R4.out)
          have R11 := Lib.hid (keep hb R11.out)
          have R16 := Lib.hid (keep hb R16.out)
          have KL := Lib.hid (KL.out.below hb)
          have KK := Lib.hid (KK.out.below hb)
          clear hb
          have R19 := Lib.hid R19
          clear hW hsz
          obtain ⟨R11c0, R11c1, R11c2, R11f0, R11f1, R11f2⟩ := row3 R11.out
          obtain ⟨R19c0, R19c1, R19c2, R19f0, R19f1, R19f2⟩ := row3 R19.out
          go_wp2_with fail
          clear R11c0 R11c1 R11c2 R11f0 R11f1 R11f2
          clear R19c0 R19c1 R19c2 R19f0 R19f1 R19f2
          refine (P4.out _ _ _ _ _ KK.out KL.out).mono ?_
          rintro e y4 ⟨rfl, hb⟩
          replace hB := bstep hB hb
          have R4 := Lib.hid (keep hb R4.out)
          have R11 := Lib.hid (keep hb R11.out)
          have R16 := Lib.hid (keep hb R16.out)
          have KL := Lib.hid (KL.out.below hb)
          clear hb
          obtain ⟨j1, j2, j3, j4⟩ := J9.out
          have hz1 : ¬ zk < 0 := by omega
          have JV := Lib.hid j4
          by_cases hz : zk = 0
          · have hge : ¬ (k : Int) < (i0 : Int) := by have := j2 hz; omega
            clear j1 j2 J9 j4
            subst hz
            by_cases hki : k = i0
            · have hkk : ((k : Int) == (i0 : Int)) = true := by rw [beq_iff_eq]; omega
              have hxx := j3 hki
              clear j3
              subst hxx
              obtain ⟨R16c0, R16c1, R16c2, R16c3, R16c4, R16c5, R16c6, R16f0, R16f1, R16f2, R16f3, R16f4, R16f5, R16f6⟩ := row7 R16.out
              obtain ⟨R4c0, R4c1, R4c2, R4c3, R4f0, R4f1, R4f2, R4f3⟩ := row4 R4.out
              go_wp2_with fail
              clear R16c0 R16c1 R16c2 R16c3 R16c4 R16c5 R16c6 R16f0 R16f1 R16f2 R16f3 R16f4 R16f5 R16f6
              clear R4c0 R4c1 R4c2 R4c3 R4f0 R4f1 R4f2 R4f3
              refine (P5.out _ hB).mono ?_
              rintro e y5 ⟨rfl, hb⟩
              replace hB := bstep hB hb
              have R4 := Lib.hid (keep hb R4.out)
              have R11 := Lib.hid (keep hb R11.out)
              have KL := Lib.hid (KL.out.below hb)
              clear hb
              by_cases hcc : cc = 0
              · have hvv := JV.out hcc
                have hv1 : ¬ v i0 < vk := by omega
                clear JV hvv
                subst hcc
                go_wp2_with fail
                go_roundw
                case rel => exact ⟨k + 1, by omega, by go_num, hB, R4, R11, KL⟩
                case measure => simp [intOf]; omega
              · have hc1 : (cc == 0) = false := by rw [beq_eq_false_iff_ne]; exact hcc
                clear JV hcc
                go_wp2_with fail
                go_roundw
                case rel => exact ⟨k + 1, by omega, by go_num, hB, R4, R11, KL⟩
                case measure => simp [intOf]; omega
            · have hkk : ((k : Int) == (i0 : Int)) = false := by rw [beq_eq_false_iff_ne]; omega
              clear j3
              obtain ⟨R16c0, R16c1, R16c2, R16c3, R16c4, R16c5, R16c6, R16f0, R16f1, R16f2, R16f3, R16f4, R16f5, R16f6⟩ := row7 R16.out
              obtain ⟨R4c0, R4c1, R4c2, R4c3, R4f0, R4f1, R4f2, R4f3⟩ := row4 R4.out
              go_wp2_with fail
              clear R16c0 R16c1 R16c2 R16c3 R16c4 R16c5 R16c6 R16f0 R16f1 R16f2 R16f3 R16f4 R16f5 R16f6
              clear R4c0 R4c1 R4c2 R4c3 R4f0 R4f1 R4f2 R4f3
              refine (P5.out _ hB).mono ?_
              rintro e y5 ⟨rfl, hb⟩
              replace hB := bstep hB hb
              have R4 := Lib.hid (keep hb R4.out)
              have R11 := Lib.hid (keep hb R11.out)
              have KL := Lib.hid (KL.out.below hb)
              clear hb
              by_cases hcc : cc = 0
              · have hvv := JV.out hcc
                have hv1 : ¬ v i0 < vk := by omega
                clear JV hvv
                subst hcc
                go_wp2_with fail
                go_roundw
                case rel => exact ⟨k + 1, by omega, by go_num, hB, R4, R11, KL⟩
                case measure => simp [intOf]; omega
              · have hc1 : (cc == 0) = false := by rw [beq_eq_false_iff_ne]; exact hcc
                clear JV hcc
                go_wp2_with fail
                go_roundw
                case rel => exact ⟨k + 1, by omega, by go_num, hB, R4, R11, KL⟩
                case measure => simp [intOf]; omega
          · have hz2 : (zk == 0) = false := by rw [beq_eq_false_iff_ne]; exact hz
            clear j1 j2 J9 j4
            by_cases hki : k = i0
            · have hkk : ((k : Int) == (i0 : Int)) = true := by rw [beq_iff_eq]; omega
              have hxx := j3 hki
              clear j3
              subst hxx
              obtain ⟨R16c0, R16c1, R16c2, R16c3, R16c4, R16c5, R16c6, R16f0, R16f1, R16f2, R16f3, R16f4, R16f5, R16f6⟩ := row7 R16.out
              obtain ⟨R4c0, R4c1, R4c2, R4c3, R4f0, R4f1, R4f2, R4f3⟩ := row4 R4.out
              go_wp2_with fail
              clear R16c0 R16c1 R16c2 R16c3 R16c4 R16c5 R16c6 R16f0 R16f1 R16f2 R16f3 R16f4 R16f5 R16f6
              clear R4c0 R4c1 R4c2 R4c3 R4f0 R4f1 R4f2 R4f3
              refine (P5.out _ hB).mono ?_
              rintro e y5 ⟨rfl, hb⟩
              replace hB := bstep hB hb
              have R4 := Lib.hid (keep hb R4.out)
              have R11 := Lib.hid (keep hb R11.out)
              have KL := Lib.hid (KL.out.below hb)
              clear hb
              by_cases hcc : cc = 0
              · have hvv := JV.out hcc
                have hv1 : ¬ v i0 < vk := by omega
                clear JV hvv
                subst hcc
                go_wp2_with fail
                go_roundw
                case rel => exact ⟨k + 1, by omega, by go_num, hB, R4, R11, KL⟩
                case measure => simp [intOf]; omega
              · have hc1 : (cc == 0) = false := by rw [beq_eq_false_iff_ne]; exact hcc
                clear JV hcc
                go_wp2_with fail
                go_roundw
                case rel => exact ⟨k + 1, by omega, by go_num, hB, R4, R11, KL⟩
                case measure => simp [intOf]; omega
            · have hkk : ((k : Int) == (i0 : Int)) = false := by rw [beq_eq_false_iff_ne]; omega
              clear j3
              obtain ⟨R16c0, R16c1, R16c2, R16c3, R16c4, R16c5, R16c6, R16f0, R16f1, R16f2, R16f3, R16f4, R16f5, R16f6⟩ := row7 R16.out
              obtain ⟨R4c0, R4c1, R4c2, R4c3, R4f0, R4f1, R4f2, R4f3⟩ := row4 R4.out
              go_wp2_with fail
              clear R16c0 R16c1 R16c2 R16c3 R16c4 R16c5 R16c6 R16f0 R16f1 R16f2 R16f3 R16f4 R16f5 R16f6
              clear R4c0 R4c1 R4c2 R4c3 R4f0 R4f1 R4f2 R4f3
              refine (P5.out _ hB).mono ?_
              rintro e y5 ⟨rfl, hb⟩
              replace hB := bstep hB hb
              have R4 := Lib.hid (keep hb R4.out)
              have R11 := Lib.hid (keep hb R11.out)
              have KL := Lib.hid (KL.out.below hb)
              clear hb
              by_cases hcc : cc = 0
              · have hvv := JV.out hcc
                have hv1 : ¬ v i0 < vk := by omega
                clear JV hvv
                subst hcc
                go_wp2_with fail
                go_roundw
                case rel => exact ⟨k + 1, by omega, by go_num, hB, R4, R11, KL⟩
                case measure => simp [intOf]; omega
              · have hc1 : (cc == 0) = false := by rw [beq_eq_false_iff_ne]; exact hcc
                clear JV hcc
                go_wp2_with fail
                go_roundw
                case rel => exact ⟨k + 1, by omega, by go_num, hB, R4, R11, KL⟩
                case measure => simp [intOf]; omega
      · have hkn : k = n := by omega
        go_wp2_with fail
        go_ret
        exact ⟨rfl, hB⟩

end Go.Proofs.YthkkdepppjiaeaaGreatDoor

/- The law OpeningLeast answers true at whatever list, position and switch. -/
namespace Go.Proofs.YthkkdepppjiaeaaGreatDoor
open Go.RowKit Go.Shelf Go.Sort

theorem cmpq_gt {x y : Rat} : 0 < cmpQ x y ↔ y < x := by
  rw [cmp_swp y x, Int.neg_pos, cmpQ_neg]
theorem wx_is (x lo hi : Rat) : wetX x lo hi = if lo < x then (if hi < x then 0 else 1) else 2 := by
  unfold wetX
  simp only [decide_eq_true_iff, cmpq_gt]
theorem wx_mono {x y lo hi : Rat} (h : ¬ y < x) : wetX y lo hi ≤ wetX x lo hi := by
  rw [wx_is, wx_is]
  by_cases h1 : lo < x
  · have h2 : lo < y := by grind
    rw [if_pos h1, if_pos h2]
    by_cases h3 : hi < x
    · have h4 : hi < y := by grind
      rw [if_pos h3, if_pos h4]
      decide
    · rw [if_neg h3]
      split <;> decide
  · rw [if_neg h1]
    split
    · split <;> decide
    · decide
theorem lowS_spec {S : Nat → Opn} {s : ByteArray × ByteArray} {m : Bool} {n : Nat} (hid : ∀ i, i < n → (S i).id ≠ 0) : ∀ k, k ≤ n →
    ((lowS S s m k).1 = 0 ∧ ∀ j, j < k → psB (S j).kind m = false) ∨
    ∃ i, i < k ∧ lowS S s m k = ((S i).id, upX s (S i).pt) ∧ psB (S i).kind m = true ∧ (∀ j, j < k → psB (S j).kind m = true → ¬ upX s (S j).pt < upX s (S i).pt) ∧ (∀ j, j < i → psB (S j).kind m = true → upX s (S i).pt < upX s (S j).pt)
  | 0, _ => .inl ⟨rfl, fun j hj => absurd hj (by omega)⟩
  | k + 1, hk => by
    cases hp : psB (S k).kind m with
    | false =>
      rw [lowS_skip hp]
      rcases lowS_spec (s := s) (m := m) hid k (by omega) with ⟨h1, h2⟩ | ⟨i, hi, h1, h2, h3, h4⟩
      · refine .inl ⟨h1, fun j hj => ?_⟩
        by_cases e : j = k
        · rw [e]; exact hp
        · exact h2 j (by omega)
      · refine .inr ⟨i, by omega, h1, h2, fun j hj hjp => ?_, h4⟩
        by_cases e : j = k
        · rw [e, hp] at hjp; cases hjp
        · exact h3 j (by omega) hjp
    | true =>
      rcases lowS_spec (s := s) (m := m) hid k (by omega) with ⟨h1, h2⟩ | ⟨i, hi, h1, h2, h3, h4⟩
      · refine .inr ⟨k, by omega, lowS_take hp (.inl h1), hp, fun j hj hjp => ?_, fun j hj hjp => ?_⟩
        · by_cases e : j = k
          · rw [e]; grind
          · rw [h2 j (by omega)] at hjp; cases hjp
        · rw [h2 j hj] at hjp; cases hjp
      · have e1 : (lowS S s m k).1 = (S i).id := by rw [h1]
        have e2 : (lowS S s m k).2 = upX s (S i).pt := by rw [h1]
        by_cases hlt : upX s (S k).pt < upX s (S i).pt
        · refine .inr ⟨k, by omega, lowS_take hp (.inr (by rw [e2]; exact hlt)), hp, fun j hj hjp => ?_, fun j hj hjp => ?_⟩
          · by_cases e : j = k
            · rw [e]; grind
            · have := h3 j (by omega) hjp
              grind
          · have := h3 j hj hjp
            grind
        · have e3 : lowS S s m (k + 1) = lowS S s m k := lowS_keep (by
            rw [e1, e2]
            rintro (h | h)
            · exact hid i (by omega) h
            · exact hlt h)
          refine .inr ⟨i, by omega, by rw [e3, h1], h2, fun j hj hjp => ?_, h4⟩
          by_cases e : j = k
          · rw [e]; exact hlt
          · exact h3 j (by omega) hjp
theorem ids_up {S : Nat → Opn} {n : Nat} (h : ∀ i, i < n → opC S i = 0) : ∀ (d i : Nat), i + d + 1 < n → (S i).id < (S (i + d + 1)).id
  | 0, i, hi => by
    have k := h (i + 1) hi
    unfold opC at k
    split at k
    · exact absurd k (by decide)
    · split at k
      · exact absurd k (by decide)
      · rename_i _ g
        simp only [Nat.add_sub_cancel] at g
        show (S i).id < (S (i + 1)).id
        have : ¬ (S (i + 1)).id ≤ (S i).id := fun q => g ⟨by omega, q⟩
        omega
  | d + 1, i, hi => by
    have h1 := ids_up h d i (by omega)
    have h2 := ids_up h 0 (i + d + 1) (by omega)
    have e : i + (d + 1) + 1 = i + d + 1 + 0 + 1 := by omega
    rw [e]
    omega
theorem ids_ne {S : Nat → Opn} {n : Nat} (h : ∀ i, i < n → opC S i = 0) {i j : Nat} (hij : i < j) (hj : j < n) : (S i).id ≠ (S j).id := by
  have k := ids_up h (j - i - 1) i (by omega)
  rw [show i + (j - i - 1) + 1 = j by omega] at k
  omega
theorem la_op_least (A : Option Addr) (n c : Nat) (S : Nat → Opn) (h t lo hi : ByteArray) (m : Bool) (w : World) (hE : Env w) (_ : A = none → n = 0) (hS : OpsIn w A n S) (hn : n ≤ 9223372036854775807) (hM : ∀ i, i < n → Mx (S i).pt)
    (hp : (h.size ≤ 9223372036854775807 ∧ t.size ≤ 9223372036854775807) ∧ lo.size ≤ 9223372036854775807 ∧ hi.size ≤ 9223372036854775807) :
    Calls Tryz.prog 8 #[.slice A n c, .agg #[.string h, .string t, .string lo, .string hi], .bool m] w fun e w' => e = .returned (.bool true) ∧ Below w.heap.size w w' := by
  obtain ⟨b, off, hA, hS⟩ := opsIn_at hS
  obtain ⟨r, hrr, h0, h1, h2⟩ := few_dec S n
  have hF := fun W (hb : Below w.heap.size w W) => r31_Few A b off n c S r W hn hA (hS.below hb) hM h0 h1 h2
  have hP := fun W (_ : Below w.heap.size w W) => r31_ShortPosition h t lo hi W hp.1.1 hp.1.2 hp.2.1 hp.2.2
  by_cases hs : r = true ∧ ((h.size ≤ 40 ∧ t.size ≤ 40) ∧ lo.size ≤ 40 ∧ hi.size ≤ 40)
  · obtain ⟨rfl, ⟨s1, s2⟩, s6, s7⟩ := hs
    simp only [decide_eq_true s1, decide_eq_true s2, decide_eq_true s6, decide_eq_true s7, Bool.and_self] at hP
    have h40 := (hrr.1 rfl).2
    obtain ⟨good, hgood, hL, _⟩ := both_lowest A b off n c S (h, t) m w hA hS h40 ⟨s1, s2⟩ hE
    cases good with
    | false => exact la31_lst_err A n c h t lo hi m 1 w hE rfl hF hP hL
    | true =>
      obtain ⟨hn64, hall⟩ := hgood.1 rfl
      cases hf : ((rvB h && rvB t) && inR (rvX h) (rvX t)) with
      | false =>
        have e : lowRes S (h, t) m n true = (0, ⟨#[]⟩, acode (rvB h && rvB t) (inR (rvX h) (rvX t))) := by
          unfold lowRes
          rw [if_pos rfl, if_neg (by show ¬ ((rvB h && rvB t) && inR (rvX h) (rvX t)) = true; rw [hf]; decide)]
        rw [e] at hL
        exact la31_lst_err A n c h t lo hi m _ w hE (acode_ne hf) hF hP hL
      | true =>
        have e : lowRes S (h, t) m n true = (if (lowS S (h, t) m n).1 = 0 then (0, ⟨#[]⟩, 7) else ((lowS S (h, t) m n).1, rs (lowS S (h, t) m n).2, 0)) := by
          unfold lowRes
          rw [if_pos rfl, if_pos (by show ((rvB h && rvB t) && inR (rvX h) (rvX t)) = true; exact hf)]
        rw [e] at hL
        have hid : ∀ i, i < n → (S i).id ≠ 0 := fun i hi => by have := (opC_zero (hall i hi)).1.1; omega
        by_cases hz : (lowS S (h, t) m n).1 = 0
        · rw [if_pos hz] at hL
          exact la31_lst_err A n c h t lo hi m 7 w hE rfl hF hP hL
        · rw [if_neg hz] at hL
          rcases lowS_spec (s := (h, t)) (m := m) hid n (Nat.le_refl _) with ⟨g, _⟩ | ⟨i0, hi0, g1, g2, g3, g4⟩
          · exact absurd g hz
          · rw [g1] at hL
            have hok : ∀ i, i < n → hokB (h, t) (S i).pt = true := fun i hi => by
              have hv := (opC_zero (hall i hi)).2
              unfold hokB
              have hf' := hf
              rw [Bool.and_eq_true] at hf'
              rw [hv, Bool.and_true]
              exact hf
            have hH : ∀ i, i < n → H40 (h, t) (S i).pt := fun i hi => ⟨⟨s1, s2⟩, h40 i hi⟩
            have zz : ∀ i, i < n → Sz 100000 (upX (h, t) (S i).pt) := fun i hi => zup (hH i hi)
            have hfrom : ∀ i, i < n → ∀ W, Calls Tryz.prog 15 #[.string (rs (upX (h, t) (S i).pt))] W fun e w' => ∃ p d : Sl, e = .returned (.tuple #[qW (sgB (upX (h, t) (S i).pt).num) p d, .bool true]) ∧ RQ w' p d (upX (h, t) (S i).pt) ∧ Below W.heap.size W w' := fun i hi W => by
              have k := r3_From (rs (upX (h, t) (S i).pt)) W (by have := rs_size (upX (h, t) (S i).pt); have := (zz i hi).1; have := (zz i hi).2; omega)
              unfold FrP at k
              rw [rvX_rs, rvB_rs] at k
              exact k
            have hwc : ∀ i, i < n → wetC (h, t) (S i).pt lo hi = if ivOk lo hi = true then 0 else 1 := fun i hi => by
              unfold wetC
              rw [hcode_yes (hok i hi)]
            refine la31_lst_go A b off n c i0 S h t lo hi (rs (upX (h, t) (S i0).pt)) m (S i0).id (if ivOk lo hi = true then 0 else 1) (upX (h, t) (S i0).pt) (fun k => rs (upX (h, t) (S k).pt)) (fun k => upX (h, t) (S k).pt) (fun k => cmpQ (upX (h, t) (S k).pt) (upX (h, t) (S i0).pt)) (fun k => wetR (h, t) (S k).pt lo hi) w hE hn hA hS hi0 ?_ hF hP hL
              (fun W b7 hb h7 => ix_opn A b off n c S b7 i0 (S i0).id W hn hA (hS.below hb) h7 hi0 rfl (fun i hi => ids_ne hall hi hi0)) (hfrom i0 hi0) ?_ ?_ ?_ hfrom ?_
            · intro k hk hps
              refine ⟨?_, ?_, fun e => by rw [e], ?_⟩
              · have := g3 k hk hps
                rw [← cmpQ_neg] at this
                omega
              · intro e
                rcases Nat.lt_or_ge k i0 with hlt | hge
                · have := g4 k hlt hps
                  rw [← cmpq_gt] at this
                  omega
                · exact hge
              · intro e
                show wetR (h, t) (S k).pt lo hi ≤ wetR (h, t) (S i0).pt lo hi
                unfold wetR
                rw [hok k hk, hok i0 hi0]
                split
                · exact wx_mono (g3 k hk hps)
                · exact Int.le_refl _
            · intro W
              have k := op_Passes (S i0).id (S i0).frm (S i0).dst (S i0).kind (S i0).pt.1 (S i0).pt.2.1 (S i0).pt.2.2 m W
              rw [g2] at k
              exact k
            · intro k hk W hb
              have q := op_WetA (S k).id (S k).frm (S k).dst (S k).kind (h, t) (S k).pt lo hi W (hE.below hb) (hH k hk).shH (Nat.le_trans s6 (by decide)) (Nat.le_trans s7 (by decide))
              rw [hwc k hk] at q
              exact q
            · intro k hk W hb
              have q := op_HeightA (S k).id (S k).frm (S k).dst (S k).kind (h, t) (S k).pt W (hE.below hb) (hH k hk).shH
              rw [hok k hk, hcode_yes (hok k hk)] at q
              unfold hgtR at q
              rw [if_pos rfl] at q
              exact q
            · intro k hk W a b c d k1 k2
              exact r3_Cmp _ _ a b c d W k1 k2 ((zz k hk).mono (by decide)) ((zz i0 hi0).mono (by decide))
  · exact la31_lst_no A n c h t lo hi m _ _ w hE (by
      rw [Bool.eq_false_iff]
      intro q
      simp only [Bool.and_eq_true, decide_eq_true_iff] at q
      exact hs q) hF hP
end Go.Proofs.YthkkdepppjiaeaaGreatDoor
