/- A PART OF THE PROOF, JOINED OUT OF 6 TEXTS. -/
import Derived.Test.YthkkdepppjiaeaaGreatDoorPiRational
import Derived.Lib.MinMax
import Derived.Deep.RegionHeld3
import Derived.IntWalk
import Derived.Carry
/- Walks of the program's package rational: of. -/
namespace Go.Proofs.YthkkdepppjiaeaaGreatDoor
open Go.RowKit Go.Shelf Go.Sort Go.IntWalk

attribute [local go_sem] Oper.semAt_some

theorem gcd_tmod (a b : Int) : Nat.gcd b.natAbs (a.tmod b).natAbs = Nat.gcd a.natAbs b.natAbs := by
  rw [Int.natAbs_tmod, gcd_step]

theorem of_val (p q : Int) (h : 0 < q) : fV (mkRat p q.toNat) = .agg #[.string (iS (p.tdiv (Nat.gcd p.natAbs q.natAbs : Nat))), .string (iS (q.tdiv (Nat.gcd p.natAbs q.natAbs : Nat)))] := by
  obtain ⟨e1, e2⟩ := low_num p q.toNat (by omega)
  unfold fV
  rw [e1, e2, show q.natAbs = q.toNat by omega, Int.tdiv_eq_ediv_of_dvd (Int.ofNat_dvd_left.2 (Nat.gcd_dvd_left _ _))]
  have : q.tdiv (Nat.gcd p.natAbs q.toNat : Nat) = (q.toNat / Nat.gcd p.natAbs q.toNat : Nat) := by
    rw [Int.tdiv_eq_ediv_of_dvd (Int.ofNat_dvd_left.2 (by rw [show q.natAbs = q.toNat by omega]; exact Nat.gcd_dvd_right _ _)), Int.natCast_ediv, Int.toNat_of_nonneg (by omega)]
  rw [this, iS_nat]

theorem fmt_int (n : Int) (w : World) (hE : Env w) (h0 : -9223372036854775808 ≤ n) (h1 : n ≤ 9223372036854775807) :
    Calls Tryz.prog 280 #[.int .i64 n, .int .i64 10] w fun e w' => e = .returned (.string (iS n)) ∧ Below w.heap.size w w' :=
  (Tryz.strconv_FormatInt_10 n h0 h1 w hE.tab).mono (by
    rintro e w' ⟨rfl, k, os, rfl⟩
    exact ⟨by rw [itoa_iS], below_grow w k os⟩)

set_option maxRecDepth 100000 in
set_option maxHeartbeats 4000000 in
theorem ra_of (p q : Int) (w : World) (hE : Env w) (h1 : -9223372036854775807 ≤ p) (h2 : p ≤ 9223372036854775807) (h3 : 0 < q) (h4 : q ≤ 9223372036854775807) :
    Calls Tryz.prog 267 #[.int .i64 p, .int .i64 q] w fun e w' => e = .returned (fV (mkRat p q.toNat)) ∧ Below w.heap.size w w' := by
  have HE := Lib.hid hE
  clear hE
  go_enter Tryz.func267, Tryz.ntmps267
  go_wp2_with fail
  generalize hW : World.alloc w _ = W
  obtain ⟨hB, hsz, R4⟩ := A1 hW
  have R4 := Lib.hid R4
  clear hW hsz
  go_loopw [5, 6] (fun x y wr => ∃ a b : Int, x = .int .i64 a ∧ y = .int .i64 b ∧ -9223372036854775807 ≤ a ∧ a ≤ 9223372036854775807 ∧ -9223372036854775807 ≤ b ∧ b ≤ 9223372036854775807 ∧ Hid (Nat.gcd a.natAbs b.natAbs = Nat.gcd p.natAbs q.natAbs) ∧ Below W.heap.size W wr) (fun _ y _ => (intOf y).natAbs)
  case atStart => exact ⟨p, q, rfl, rfl, by omega, by omega, by omega, by omega, Lib.hid rfl, Below.refl _ _⟩
  case round =>
    obtain ⟨a, b, rfl, rfl, ha1, ha2, hb1, hb2, HG, hBr⟩ := hrel
    by_cases h0 : b = 0
    · subst h0
      obtain ⟨g, hg⟩ : ∃ g, g = Nat.gcd p.natAbs q.natAbs := ⟨_, rfl⟩
      have hg0 : 0 < g := by rw [hg]; exact Nat.gcd_pos_of_pos_right _ (by omega)
      have HM : Hid (max a (-a) = (g : Int)) := Lib.hid (by
        have := HG.out
        rw [← hg, show (0 : Int).natAbs = 0 from rfl, Nat.gcd_zero_right] at this
        omega)
      have hgq : g ≤ q.natAbs := by rw [hg]; exact Nat.gcd_le_right _ (by omega)
      have hg1 : (1 : Int) ≤ g := by omega
      have hg2 : (g : Int) ≤ 9223372036854775807 := by omega
      have HGg := Lib.hid hg
      replace hB := bstep hB hBr
      have R4 := Lib.hid (keep hBr R4.out)
      clear hg hg0 hgq HG hBr
      go_wp2_with fail
      rw [HM.out]
      have k0 : ¬ ((g : Int) = 0) := by omega
      have k1 : ((g : Int) == 0) = false := by rw [beq_eq_false_iff_ne]; exact k0
      have hpt : (p.tdiv g).natAbs ≤ p.natAbs := by rw [Int.natAbs_tdiv]; exact Nat.div_le_self _ _
      have hqt : (q.tdiv g).natAbs ≤ q.natAbs := by rw [Int.natAbs_tdiv]; exact Nat.div_le_self _ _
      obtain ⟨p', hp'⟩ : ∃ p', p' = p.tdiv g := ⟨_, rfl⟩
      obtain ⟨q', hq'⟩ : ∃ q', q' = q.tdiv g := ⟨_, rfl⟩
      rw [← hp'] at hpt
      rw [← hq'] at hqt
      have k3 : IntKind.i64.wrap (p.tdiv g) = p' := by rw [← hp']; exact IntWalk.i64_in _ (by omega)
      have k4 : IntKind.i64.wrap (q.tdiv g) = q' := by rw [← hq']; exact IntWalk.i64_in _ (by omega)
      have HF1 := Lib.hid (fun w hE => fmt_int p' w hE (by omega) (by omega))
      have HF2 := Lib.hid (fun w hE => fmt_int q' w hE (by omega) (by omega))
      have HV : Hid (fV (mkRat p q.toNat) = .agg #[.string (iS p'), .string (iS q')]) := Lib.hid (by
        rw [hp', hq', HGg.out]; exact of_val p q h3)
      have k5 : ¬ g = 0 := by omega
      clear hp' hq' hpt hqt
      have hB0 := hB.drew
      first
      | go_region_with (first
          | (go_at_call 280; (with_reducible refine (HF1.out _ (HE.out.below hB0)).mono ?_); rintro e w1 ⟨rfl, hb⟩; have hB1 := bstep hB0 hb; have R4 := Lib.hid (keep hb R4.out); clear hb)
          | (go_at_call 280; (with_reducible refine (HF2.out _ (HE.out.below hB1)).mono ?_); rintro e w2 ⟨rfl, hb⟩; have hB2 := bstep hB1 hb; have R4 := Lib.hid (keep hb R4.out); obtain ⟨c0, c1, f0, f1⟩ := row2 R4.out; clear hb))
      | fail
      all_goals
        go_wp2_with fail
        exact bodyPost_ret (v := fV (mkRat p q.toNat)) (by rw [HV.out]; exact res_c rfl frac_row rfl (store2 R4.out _ _) rfl) rfl ⟨rfl, store2_below hB2 (Nat.le_refl _) _ _⟩
    · have e1 : (b != 0) = true := by rw [bne_iff_ne]; exact h0
      have ht := Int.natAbs_tmod a b
      have hlt := Nat.mod_lt a.natAbs (show 0 < b.natAbs by omega)
      have t1 : -9223372036854775807 ≤ a.tmod b := by omega
      have t2 : a.tmod b ≤ 9223372036854775807 := by omega
      have HT := Lib.hid (show (a.tmod b).natAbs < b.natAbs by omega)
      have HG2 := Lib.hid ((gcd_tmod a b).trans HG.out)
      clear ht hlt
      go_wp2
      go_quiet (fail)
      go_wp2
      go_roundw
      case rel => exact ⟨b, a.tmod b, rfl, rfl, hb1, hb2, t1, t2, HG2, below_drewN hBr _⟩
      case measure => exact HT.out
end Go.Proofs.YthkkdepppjiaeaaGreatDoor

/- Walks of the program's package rational: plus, times. -/
namespace Go.Proofs.YthkkdepppjiaeaaGreatDoor
open Go.RowKit Go.Shelf Go.Sort

attribute [local go_sem] Oper.semAt_some

theorem add_val (x y : Rat) : mkRat (x.num * (y.den : Int) + y.num * (x.den : Int)) (x.den * y.den) = x + y := (Rat.add_def' x y).symm
theorem mul_val (x y : Rat) : mkRat (x.num * y.num) (x.den * y.den) = x * y := (Rat.mul_def' x y).symm

/-- A product of two small numbers. -/
theorem small_mul {a b : Int} (ha : a.natAbs < 1000000000) (hb : b.natAbs < 1000000000) : -1000000000000000000 ≤ a * b ∧ a * b ≤ 1000000000000000000 := by
  have h : (a * b).natAbs ≤ 1000000000 * 1000000000 := by
    rw [Int.natAbs_mul]; exact Nat.mul_le_mul (Nat.le_of_lt ha) (Nat.le_of_lt hb)
  omega

theorem iS_nl (z : Int) : nl z.natAbs ≤ (iS z).size := by
  show _ ≤ (iS z).data.size
  rw [← Array.length_toList, iS_list]; unfold nl; split <;> simp

set_option maxRecDepth 100000 in
set_option maxHeartbeats 4000000 in
theorem ra_plus_small (x y : Rat) (w : World) (hE : Env w) (h1 : (iS x.num).size ≤ 9) (h2 : (nS x.den).size ≤ 9) (h3 : (iS y.num).size ≤ 9) (h4 : (nS y.den).size ≤ 9) :
    Calls Tryz.prog 249 #[fV x, fV y] w fun e w' => e = .returned (fV (x + y)) ∧ Below w.heap.size w w' := by
  have L1 := Lib.hid (fun w => ra_little_yes x w h1 h2)
  have L2 := Lib.hid (fun w => ra_little_yes y w h3 h4)
  have b1 : x.num.natAbs < 1000000000 := few_of (Nat.le_trans (iS_nl _) h1)
  have b2 : (x.den : Int).natAbs < 1000000000 := by rw [Int.natAbs_natCast]; exact few_of h2
  have b3 : y.num.natAbs < 1000000000 := few_of (Nat.le_trans (iS_nl _) h3)
  have b4 : (y.den : Int).natAbs < 1000000000 := by rw [Int.natAbs_natCast]; exact few_of h4
  obtain ⟨m1, m1'⟩ := small_mul b1 b4
  obtain ⟨m2, m2'⟩ := small_mul b3 b2
  obtain ⟨m3, m3'⟩ := small_mul b2 b4
  have p3 : 0 < (x.den : Int) * (y.den : Int) := Int.mul_pos (by have := x.den_nz; omega) (by have := y.den_nz; omega)
  have HO := fun w (hE : Env w) => ra_of (x.num * (y.den : Int) + y.num * (x.den : Int)) ((x.den : Int) * (y.den : Int)) w hE (by omega) (by omega) p3 (by omega)
  rw [show ((x.den : Int) * (y.den : Int)).toNat = x.den * y.den by rw [← Int.natCast_mul]; rfl, add_val] at HO
  have HO := Lib.hid HO
  have HE := Lib.hid hE
  clear hE h1 h2 h3 h4 b1 b2 b3 b4
  unfold fV at *
  generalize iS (x + y).num = r1 at *
  generalize nS (x + y).den = r2 at *
  generalize iS x.num = s1 at *
  generalize nS x.den = s2 at *
  generalize iS y.num = s3 at *
  generalize nS y.den = s4 at *
  generalize x.num = a at *
  generalize (x.den : Int) = b at *
  generalize y.num = c at *
  generalize (y.den : Int) = d at *
  clear x y
  go_enter Tryz.func249, Tryz.ntmps249
  go_upto_region 1 with fail
  generalize hW : ((World.alloc w _).alloc _).alloc _ = W
  obtain ⟨hB, hsz, R2, R3, R4⟩ := A3 hW
  have R2 := Lib.hid R2
  have R3 := Lib.hid R3
  have R4 := Lib.hid R4
  clear hW hsz
  obtain ⟨R2c0, R2c1, R2f0, R2f1⟩ := row2 R2.out
  go_wp2_with fail
  clear R2c0 R2c1 R2f0 R2f1
  refine (L1.out _).mono ?_
  rintro e w1 ⟨rfl, hb⟩
  replace hB := bstep hB hb
  have R3 := Lib.hid (keep hb R3.out)
  have R4 := Lib.hid (keep hb R4.out)
  clear hb
  obtain ⟨R3c0, R3c1, R3f0, R3f1⟩ := row2 R3.out
  go_wp2_with fail
  clear R3c0 R3c1 R3f0 R3f1
  refine (L2.out _).mono ?_
  rintro e w2 ⟨rfl, hb⟩
  replace hB := bstep hB hb
  have R4 := Lib.hid (keep hb R4.out)
  clear hb
  go_wp2_with fail
  refine (HO.out _ (HE.out.below hB)).mono ?_
  rintro e w3 ⟨rfl, hb⟩
  replace hB := bstep hB hb
  have R4 := Lib.hid (keep hb R4.out)
  clear hb
  obtain ⟨R4c0, R4c1, R4f0, R4f1⟩ := row2 R4.out
  go_wp2_with fail
  exact bodyPost_ret (res_c rfl frac_row rfl (store2 R4.out _ _) rfl) rfl ⟨rfl, store2_below hB (by omega) _ _⟩

set_option maxRecDepth 100000 in
set_option maxHeartbeats 4000000 in
theorem ra_plus_big (x y : Rat) (p q r s : Int) (ok is : Bool) (w : World) (hE : Env w) (hx : Sz 5000000 x) (hy : Sz 5000000 y) (hok : (ok && is) = false)
    (h1 : ∀ w, Calls Tryz.prog 266 #[fV x] w fun e w' => e = .returned (.tuple #[.int .i64 p, .int .i64 q, .bool ok]) ∧ Below w.heap.size w w')
    (h2 : ∀ w, Calls Tryz.prog 266 #[fV y] w fun e w' => e = .returned (.tuple #[.int .i64 r, .int .i64 s, .bool is]) ∧ Below w.heap.size w w') :
    Calls Tryz.prog 249 #[fV x, fV y] w fun e w' => e = .returned (fV (x + y)) ∧ Below w.heap.size w w' := by
  obtain ⟨a1, a2⟩ := hx
  obtain ⟨b1, b2⟩ := hy
  have n1 := nl_mulI x.num y.den
  have n2 := nl_mulI y.num x.den
  have n3 := nl_addI (x.num * (y.den : Int)) (y.num * (x.den : Int))
  have n4 := nl_mul x.den y.den
  rw [Int.natAbs_natCast] at n1 n2
  have M1 := fun w hE => in_Mul x.num y.den w hE (by omega) (by rw [Int.natAbs_natCast]; omega)
  have M2 := fun w hE => in_Mul y.num x.den w hE (by omega) (by rw [Int.natAbs_natCast]; omega)
  have M3 := fun w hE => in_Add (x.num * (y.den : Int)) (y.num * (x.den : Int)) w hE (by omega) (by omega)
  have M4 := fun w hE => na_Mul x.den y.den w hE (by omega) (by omega)
  have M5 := fun w hE => ra_lowest (x.num * (y.den : Int) + y.num * (x.den : Int)) (x.den * y.den) w hE (by omega) (by omega) (Nat.mul_ne_zero x.den_nz y.den_nz)
  rw [add_val] at M5
  rw [iS_nat] at M1 M2
  have M1 := Lib.hid M1
  have M2 := Lib.hid M2
  have M3 := Lib.hid M3
  have M4 := Lib.hid M4
  have M5 := Lib.hid M5
  have L1 := Lib.hid h1
  have L2 := Lib.hid h2
  have HE := Lib.hid hE
  clear hE h1 h2 a1 a2 b1 b2 n1 n2 n3 n4
  unfold fV at *
  generalize iS (x + y).num = r1 at *
  generalize nS (x + y).den = r2 at *
  generalize iS (x.num * (y.den : Int) + y.num * (x.den : Int)) = t1 at *
  generalize nS (x.den * y.den) = t2 at *
  generalize iS (x.num * (y.den : Int)) = t3 at *
  generalize iS (y.num * (x.den : Int)) = t4 at *
  generalize iS x.num = s1 at *
  generalize nS x.den = s2 at *
  generalize iS y.num = s3 at *
  generalize nS y.den = s4 at *
  clear x y
  cases ok <;> cases is
  rotate_right
  · exact absurd hok (by decide)
  all_goals
    clear hok
    go_enter Tryz.func249, Tryz.ntmps249
    go_upto_region 1 with fail
    generalize hW : ((World.alloc w _).alloc _).alloc _ = W
    obtain ⟨hB, hsz, R2, R3, R4⟩ := A3 hW
    have R2 := Lib.hid R2
    have R3 := Lib.hid R3
    have R4 := Lib.hid R4
    clear hW hsz
    obtain ⟨R2c0, R2c1, R2f0, R2f1⟩ := row2 R2.out
    go_wp2_with fail
    clear R2c0 R2c1 R2f0 R2f1
    refine (L1.out _).mono ?_
    rintro e w1 ⟨rfl, hb⟩
    replace hB := bstep hB hb
    have R2 := Lib.hid (keep hb R2.out)
    have R3 := Lib.hid (keep hb R3.out)
    have R4 := Lib.hid (keep hb R4.out)
    clear hb
    obtain ⟨R3c0, R3c1, R3f0, R3f1⟩ := row2 R3.out
    go_wp2_with fail
    clear R3c0 R3c1 R3f0 R3f1
    refine (L2.out _).mono ?_
    rintro e w2 ⟨rfl, hb⟩
    replace hB := bstep hB hb
    have R2 := Lib.hid (keep hb R2.out)
    have R3 := Lib.hid (keep hb R3.out)
    have R4 := Lib.hid (keep hb R4.out)
    clear hb
    obtain ⟨R2c0, R2c1, R2f0, R2f1⟩ := row2 R2.out
    obtain ⟨R3c0, R3c1, R3f0, R3f1⟩ := row2 R3.out
    go_wp2_with fail
    clear R2c0 R2c1 R2f0 R2f1
    clear R3c0 R3c1 R3f0 R3f1
    refine (M1.out _ (HE.out.below hB)).mono ?_
    rintro e w3 ⟨rfl, hb⟩
    replace hB := bstep hB hb
    have R2 := Lib.hid (keep hb R2.out)
    have R3 := Lib.hid (keep hb R3.out)
    have R4 := Lib.hid (keep hb R4.out)
    clear hb
    obtain ⟨R2c0, R2c1, R2f0, R2f1⟩ := row2 R2.out
    obtain ⟨R3c0, R3c1, R3f0, R3f1⟩ := row2 R3.out
    go_wp2_with fail
    clear R2c0 R2c1 R2f0 R2f1
    clear R3c0 R3c1 R3f0 R3f1
    refine (M2.out _ (HE.out.below hB)).mono ?_
    rintro e w4 ⟨rfl, hb⟩
    replace hB := bstep hB hb
    have R2 := Lib.hid (keep hb R2.out)
    have R3 := Lib.hid (keep hb R3.out)
    have R4 := Lib.hid (keep hb R4.out)
    clear hb
    obtain ⟨R2c0, R2c1, R2f0, R2f1⟩ := row2 R2.out
    obtain ⟨R3c0, R3c1, R3f0, R3f1⟩ := row2 R3.out
    go_wp2_with fail
    clear R2c0 R2c1 R2f0 R2f1
    clear R3c0 R3c1 R3f0 R3f1
    refine (M3.out _ (HE.out.below hB)).mono ?_
    rintro e w5 ⟨rfl, hb⟩
    replace hB := bstep hB hb
    have R2 := Lib.hid (keep hb R2.out)
    have R3 := Lib.hid (keep hb R3.out)
    have R4 := Lib.hid (keep hb R4.out)
    clear hb
    obtain ⟨R2c0, R2c1, R2f0, R2f1⟩ := row2 R2.out
    obtain ⟨R3c0, R3c1, R3f0, R3f1⟩ := row2 R3.out
    go_wp2_with fail
    clear R2c0 R2c1 R2f0 R2f1
    clear R3c0 R3c1 R3f0 R3f1
    refine (M4.out _ (HE.out.below hB)).mono ?_
    rintro e w6 ⟨rfl, hb⟩
    replace hB := bstep hB hb
    have R4 := Lib.hid (keep hb R4.out)
    clear hb
    go_wp2_with fail
    refine (M5.out _ (HE.out.below hB)).mono ?_
    rintro e w7 ⟨rfl, hb⟩
    replace hB := bstep hB hb
    have R4 := Lib.hid (keep hb R4.out)
    clear hb
    obtain ⟨R4c0, R4c1, R4f0, R4f1⟩ := row2 R4.out
    go_wp2_with fail
    exact bodyPost_ret (res_c rfl frac_row rfl (store2 R4.out _ _) rfl) rfl ⟨rfl, store2_below hB (by omega) _ _⟩

theorem ra_plus (x y : Rat) (w : World) (hE : Env w) (hx : Sz 5000000 x) (hy : Sz 5000000 y) :
    Calls Tryz.prog 249 #[fV x, fV y] w fun e w' => e = .returned (fV (x + y)) ∧ Below w.heap.size w w' := by
  by_cases h1 : (iS x.num).size ≤ 9 ∧ (nS x.den).size ≤ 9
  · by_cases h2 : (iS y.num).size ≤ 9 ∧ (nS y.den).size ≤ 9
    · exact ra_plus_small x y w hE h1.1 h1.2 h2.1 h2.2
    · exact ra_plus_big x y _ _ _ _ true false w hE hx hy rfl (fun w => ra_little_yes x w h1.1 h1.2) (fun w => ra_little_no y w h2)
  · by_cases h2 : (iS y.num).size ≤ 9 ∧ (nS y.den).size ≤ 9
    · exact ra_plus_big x y _ _ _ _ false true w hE hx hy rfl (fun w => ra_little_no x w h1) (fun w => ra_little_yes y w h2.1 h2.2)
    · exact ra_plus_big x y _ _ _ _ false false w hE hx hy rfl (fun w => ra_little_no x w h1) (fun w => ra_little_no y w h2)
end Go.Proofs.YthkkdepppjiaeaaGreatDoor

/- Walks of the program's package rational: times. -/
namespace Go.Proofs.YthkkdepppjiaeaaGreatDoor
open Go.RowKit Go.Shelf Go.Sort

attribute [local go_sem] Oper.semAt_some

set_option maxRecDepth 100000 in
set_option maxHeartbeats 4000000 in
theorem ra_times_small (x y : Rat) (w : World) (hE : Env w) (h1 : (iS x.num).size ≤ 9) (h2 : (nS x.den).size ≤ 9) (h3 : (iS y.num).size ≤ 9) (h4 : (nS y.den).size ≤ 9) :
    Calls Tryz.prog 250 #[fV x, fV y] w fun e w' => e = .returned (fV (x * y)) ∧ Below w.heap.size w w' := by
  have L1 := Lib.hid (fun w => ra_little_yes x w h1 h2)
  have L2 := Lib.hid (fun w => ra_little_yes y w h3 h4)
  have b1 : x.num.natAbs < 1000000000 := few_of (Nat.le_trans (iS_nl _) h1)
  have b2 : (x.den : Int).natAbs < 1000000000 := by rw [Int.natAbs_natCast]; exact few_of h2
  have b3 : y.num.natAbs < 1000000000 := few_of (Nat.le_trans (iS_nl _) h3)
  have b4 : (y.den : Int).natAbs < 1000000000 := by rw [Int.natAbs_natCast]; exact few_of h4
  obtain ⟨m1, m1'⟩ := small_mul b1 b3
  obtain ⟨m3, m3'⟩ := small_mul b2 b4
  have p3 : 0 < (x.den : Int) * (y.den : Int) := Int.mul_pos (by have := x.den_nz; omega) (by have := y.den_nz; omega)
  have HO := fun w (hE : Env w) => ra_of (x.num * y.num) ((x.den : Int) * (y.den : Int)) w hE (by omega) (by omega) p3 (by omega)
  rw [show ((x.den : Int) * (y.den : Int)).toNat = x.den * y.den by rw [← Int.natCast_mul]; rfl, mul_val] at HO
  have HO := Lib.hid HO
  have HE := Lib.hid hE
  clear hE h1 h2 h3 h4 b1 b2 b3 b4
  unfold fV at *
  generalize iS (x * y).num = r1 at *
  generalize nS (x * y).den = r2 at *
  generalize iS x.num = s1 at *
  generalize nS x.den = s2 at *
  generalize iS y.num = s3 at *
  generalize nS y.den = s4 at *
  generalize x.num = a at *
  generalize (x.den : Int) = b at *
  generalize y.num = c at *
  generalize (y.den : Int) = d at *
  clear x y
  go_enter Tryz.func250, Tryz.ntmps250
  go_upto_region 1 with fail
  generalize hW : ((World.alloc w _).alloc _).alloc _ = W
  obtain ⟨hB, hsz, R2, R3, R4⟩ := A3 hW
  have R2 := Lib.hid R2
  have R3 := Lib.hid R3
  have R4 := Lib.hid R4
  clear hW hsz
  obtain ⟨R2c0, R2c1, R2f0, R2f1⟩ := row2 R2.out
  go_wp2_with fail
  clear R2c0 R2c1 R2f0 R2f1
  refine (L1.out _).mono ?_
  rintro e w1 ⟨rfl, hb⟩
  replace hB := bstep hB hb
  have R3 := Lib.hid (keep hb R3.out)
  have R4 := Lib.hid (keep hb R4.out)
  clear hb
  obtain ⟨R3c0, R3c1, R3f0, R3f1⟩ := row2 R3.out
  go_wp2_with fail
  clear R3c0 R3c1 R3f0 R3f1
  refine (L2.out _).mono ?_
  rintro e w2 ⟨rfl, hb⟩
  replace hB := bstep hB hb
  have R4 := Lib.hid (keep hb R4.out)
  clear hb
  go_wp2_with fail
  refine (HO.out _ (HE.out.below hB)).mono ?_
  rintro e w3 ⟨rfl, hb⟩
  replace hB := bstep hB hb
  have R4 := Lib.hid (keep hb R4.out)
  clear hb
  obtain ⟨R4c0, R4c1, R4f0, R4f1⟩ := row2 R4.out
  go_wp2_with fail
  exact bodyPost_ret (res_c rfl frac_row rfl (store2 R4.out _ _) rfl) rfl ⟨rfl, store2_below hB (by omega) _ _⟩

set_option maxRecDepth 100000 in
set_option maxHeartbeats 4000000 in
theorem ra_times_big (x y : Rat) (p q r s : Int) (ok is : Bool) (w : World) (hE : Env w) (hx : Sz 5000000 x) (hy : Sz 5000000 y) (hok : (ok && is) = false)
    (h1 : ∀ w, Calls Tryz.prog 266 #[fV x] w fun e w' => e = .returned (.tuple #[.int .i64 p, .int .i64 q, .bool ok]) ∧ Below w.heap.size w w')
    (h2 : ∀ w, Calls Tryz.prog 266 #[fV y] w fun e w' => e = .returned (.tuple #[.int .i64 r, .int .i64 s, .bool is]) ∧ Below w.heap.size w w') :
    Calls Tryz.prog 250 #[fV x, fV y] w fun e w' => e = .returned (fV (x * y)) ∧ Below w.heap.size w w' := by
  obtain ⟨a1, a2⟩ := hx
  obtain ⟨b1, b2⟩ := hy
  have n1 := nl_mulI x.num y.num
  have n4 := nl_mul x.den y.den
  have M1 := fun w hE => in_Mul x.num y.num w hE (by omega) (by omega)
  have M4 := fun w hE => na_Mul x.den y.den w hE (by omega) (by omega)
  have M5 := fun w hE => ra_lowest (x.num * y.num) (x.den * y.den) w hE (by omega) (by omega) (Nat.mul_ne_zero x.den_nz y.den_nz)
  rw [mul_val] at M5
  have M1 := Lib.hid M1
  have M4 := Lib.hid M4
  have M5 := Lib.hid M5
  have L1 := Lib.hid h1
  have L2 := Lib.hid h2
  have HE := Lib.hid hE
  clear hE h1 h2 a1 a2 b1 b2 n1 n4
  unfold fV at *
  generalize iS (x * y).num = r1 at *
  generalize nS (x * y).den = r2 at *
  generalize iS (x.num * y.num) = t1 at *
  generalize nS (x.den * y.den) = t2 at *
  generalize iS x.num = s1 at *
  generalize nS x.den = s2 at *
  generalize iS y.num = s3 at *
  generalize nS y.den = s4 at *
  clear x y
  cases ok <;> cases is
  rotate_right
  · exact absurd hok (by decide)
  all_goals
    clear hok
    go_enter Tryz.func250, Tryz.ntmps250
    go_upto_region 1 with fail
    generalize hW : ((World.alloc w _).alloc _).alloc _ = W
    obtain ⟨hB, hsz, R2, R3, R4⟩ := A3 hW
    have R2 := Lib.hid R2
    have R3 := Lib.hid R3
    have R4 := Lib.hid R4
    clear hW hsz
    obtain ⟨R2c0, R2c1, R2f0, R2f1⟩ := row2 R2.out
    go_wp2_with fail
    clear R2c0 R2c1 R2f0 R2f1
    refine (L1.out _).mono ?_
    rintro e w1 ⟨rfl, hb⟩
    replace hB := bstep hB hb
    have R2 := Lib.hid (keep hb R2.out)
    have R3 := Lib.hid (keep hb R3.out)
    have R4 := Lib.hid (keep hb R4.out)
    clear hb
    obtain ⟨R3c0, R3c1, R3f0, R3f1⟩ := row2 R3.out
    go_wp2_with fail
    clear R3c0 R3c1 R3f0 R3f1
    refine (L2.out _).mono ?_
    rintro e w2 ⟨rfl, hb⟩
    replace hB := bstep hB hb
    have R2 := Lib.hid (keep hb R2.out)
    have R3 := Lib.hid (keep hb R3.out)
    have R4 := Lib.hid (keep hb R4.out)
    clear hb
    obtain ⟨R2c0, R2c1, R2f0, R2f1⟩ := row2 R2.out
    obtain ⟨R3c0, R3c1, R3f0, R3f1⟩ := row2 R3.out
    go_wp2_with fail
    clear R2c0 R2c1 R2f0 R2f1
    clear R3c0 R3c1 R3f0 R3f1
    refine (M1.out _ (HE.out.below hB)).mono ?_
    rintro e w3 ⟨rfl, hb⟩
    replace hB := bstep hB hb
    have R2 := Lib.hid (keep hb R2.out)
    have R3 := Lib.hid (keep hb R3.out)
    have R4 := Lib.hid (keep hb R4.out)
    clear hb
    obtain ⟨R2c0, R2c1, R2f0, R2f1⟩ := row2 R2.out
    obtain ⟨R3c0, R3c1, R3f0, R3f1⟩ := row2 R3.out
    go_wp2_with fail
    clear R2c0 R2c1 R2f0 R2f1
    clear R3c0 R3c1 R3f0 R3f1
    refine (M4.out _ (HE.out.below hB)).mono ?_
    rintro e w6 ⟨rfl, hb⟩
    replace hB := bstep hB hb
    have R4 := Lib.hid (keep hb R4.out)
    clear hb
    go_wp2_with fail
    refine (M5.out _ (HE.out.below hB)).mono ?_
    rintro e w7 ⟨rfl, hb⟩
    replace hB := bstep hB hb
    have R4 := Lib.hid (keep hb R4.out)
    clear hb
    obtain ⟨R4c0, R4c1, R4f0, R4f1⟩ := row2 R4.out
    go_wp2_with fail
    exact bodyPost_ret (res_c rfl frac_row rfl (store2 R4.out _ _) rfl) rfl ⟨rfl, store2_below hB (by omega) _ _⟩

theorem ra_times (x y : Rat) (w : World) (hE : Env w) (hx : Sz 5000000 x) (hy : Sz 5000000 y) :
    Calls Tryz.prog 250 #[fV x, fV y] w fun e w' => e = .returned (fV (x * y)) ∧ Below w.heap.size w w' := by
  by_cases h1 : (iS x.num).size ≤ 9 ∧ (nS x.den).size ≤ 9
  · by_cases h2 : (iS y.num).size ≤ 9 ∧ (nS y.den).size ≤ 9
    · exact ra_times_small x y w hE h1.1 h1.2 h2.1 h2.2
    · exact ra_times_big x y _ _ _ _ true false w hE hx hy rfl (fun w => ra_little_yes x w h1.1 h1.2) (fun w => ra_little_no y w h2)
  · by_cases h2 : (iS y.num).size ≤ 9 ∧ (nS y.den).size ≤ 9
    · exact ra_times_big x y _ _ _ _ false true w hE hx hy rfl (fun w => ra_little_no x w h1) (fun w => ra_little_yes y w h2.1 h2.2)
    · exact ra_times_big x y _ _ _ _ false false w hE hx hy rfl (fun w => ra_little_no x w h1) (fun w => ra_little_no y w h2)
end Go.Proofs.YthkkdepppjiaeaaGreatDoor

/- Walks of the program's package rational: the map of the four operations, and the two that are closures. -/
namespace Go.Proofs.YthkkdepppjiaeaaGreatDoor
open Go.RowKit Go.Shelf Go.Sort Go.MapKept

attribute [local go_sem] Oper.semAt_some

/-! ### maps of known entries -/
theorem run_mapUpdate_new {P : Program} {w : World} {t k e : TypeId} {d : TypeDesc} {r clock : Nat} {es : Array MapEntry} {key val : Value} (ht : P.underlying t = some (.map k e)) (hk : P.underlying k = some d)
    (hb : w.heap[r]? = some (.map es clock)) (hkey : IsKey d key) (hf : Instr.findNow d key es.toList 0 = some none) :
    ∃ w', (Instr.mapUpdate t (.map (some r)) key val).run P w = .ok () w' ∧ w'.heap[r]? = some (.map (es.push { key := key, val := val, born := clock }) (clock + 1)) ∧ w'.heap.size = w.heap.size ∧ ∀ B, B ≤ r → Below B w w' := by
  refine ⟨{ w with heap := w.heap.setIfInBounds r (.map (es.push { key := key, val := val, born := clock }) (clock + 1)) }, ?_, (MapKept.heap_set hb).1, by simp, fun B hB => ⟨rfl, rfl, rfl, by simp, fun i hi => (MapKept.heap_set hb).2 i (by omega)⟩⟩
  simp [Instr.mapUpdate, run_underlying ht, MapKept.run_getObj_map hb, MapKept.run_checkKey hk hkey, MapKept.run_findKey hk hf, MapKept.run_setObj_map _ hb, Result.andThen]
theorem run_lookup_known {P : Program} {w : World} {t k e : TypeId} {d : TypeDesc} {r clock i : Nat} {es : Array MapEntry} {key val : Value} (ht : P.underlying t = some (.map k e)) (hk : P.underlying k = some d)
    (hb : w.heap[r]? = some (.map es clock)) (hkey : IsKey d key) (hf : Instr.findNow d key es.toList 0 = some (some (i, val))) :
    (Instr.lookup t (.map (some r)) key false).run P w = .ok val w := by
  simp [Instr.lookup, run_underlying ht, MapKept.run_getObj_map hb, MapKept.run_checkKey hk hkey, MapKept.run_findKey hk hf, Result.andThen]

abbrev fnV (g : Nat) : Value := .func (.func g) #[] #[]
/-- The four operations. -/
abbrev opsMap : Array MapEntry := #[{ key := .int .u8 43, val := fnV 249, born := 0 }, { key := .int .u8 42, val := fnV 250, born := 1 }, { key := .int .u8 45, val := fnV 251, born := 2 }, { key := .int .u8 47, val := fnV 253, born := 3 }]

set_option maxHeartbeats 2000000 in
theorem ra_operations (w : World) :
    Calls Tryz.prog 230 #[] w fun e w' => ∃ r, e = .returned (.map (some r)) ∧ w'.heap[r]? = some (.map opsMap 4) ∧ Below w.heap.size w w' := by
  have hmm := @run_makeMap Tryz.prog
  have hb0 : (w.alloc (.map #[] 0)).heap[w.heap.size]? = some (.map #[] 0) := heap_alloc_new _ _
  have B0 : Below w.heap.size w (w.alloc (.map #[] 0)) := (A1 rfl).1
  obtain ⟨w1, e1, r1, s1, b1⟩ := run_mapUpdate_new (P := Tryz.prog) (key := .int .u8 43) (val := fnV 249) Tryz.underlying253 Tryz.underlying5 hb0 rfl rfl
  obtain ⟨w2, e2, r2, s2, b2⟩ := run_mapUpdate_new (P := Tryz.prog) (key := .int .u8 42) (val := fnV 250) Tryz.underlying253 Tryz.underlying5 r1 rfl rfl
  obtain ⟨w3, e3, r3, s3, b3⟩ := run_mapUpdate_new (P := Tryz.prog) (key := .int .u8 45) (val := fnV 251) Tryz.underlying253 Tryz.underlying5 r2 rfl rfl
  obtain ⟨w4, e4, r4, s4, b4⟩ := run_mapUpdate_new (P := Tryz.prog) (key := .int .u8 47) (val := fnV 253) Tryz.underlying253 Tryz.underlying5 r3 rfl rfl
  have HB := Lib.hid ((((B0.trans (b1 _ (Nat.le_refl _))).trans (b2 _ (Nat.le_refl _))).trans (b3 _ (Nat.le_refl _))).trans (b4 _ (Nat.le_refl _)))
  have HR := Lib.hid r4
  clear hb0 B0 r1 s1 b1 r2 s2 b2 r3 s3 b3 r4 s4 b4
  go_enter Tryz.func230, Tryz.ntmps230
  go_wp2_with fail
  go_ret
  exact ⟨_, rfl, HR.out, HB.out⟩

set_option maxHeartbeats 2000000 in
theorem ra_all (w : World) :
    Calls Tryz.prog 203 #[] w fun e w' => ∃ r, e = .returned (.map (some r)) ∧ w'.heap[r]? = some (.map opsMap 4) ∧ Below w.heap.size w w' := by
  go_enter Tryz.func203, Tryz.ntmps203
  go_wp2_with fail
  refine (ra_operations _).mono ?_
  rintro e w1 ⟨r, rfl, hr, hb⟩
  have HR := Lib.hid hr
  clear hr
  go_wp2_with fail
  go_ret
  exact ⟨r, rfl, HR.out, hb⟩

set_option maxRecDepth 100000 in
set_option maxHeartbeats 4000000 in
theorem ra_minus (x y : Rat) (w : World) (hE : Env w) (hx : Sz 5000000 x) (hy : Sz 5000000 y) :
    Calls Tryz.prog 251 #[fV x, fV y] w fun e w' => e = .returned (fV (x - y)) ∧ Below w.heap.size w w' := by
  rw [Rat.sub_eq_add_neg]
  have HO := Lib.hid (fun w => ra_opposite y w (hy.mono (by decide)))
  have HP := Lib.hid (fun w hE => ra_plus x (-y) w hE hx (sz_neg hy))
  have HE := Lib.hid hE
  clear hE hx hy
  unfold fV at *
  generalize iS (x + -y).num = r1 at *
  generalize nS (x + -y).den = r2 at *
  generalize iS (-y).num = t1 at *
  generalize nS (-y).den = t2 at *
  generalize iS x.num = s1 at *
  generalize nS x.den = s2 at *
  generalize iS y.num = s3 at *
  generalize nS y.den = s4 at *
  clear x y
  go_enter Tryz.func251, Tryz.ntmps251
  go_wp2_with fail
  generalize hW : ((World.alloc w _).alloc _).alloc _ = W
  obtain ⟨hB, hsz, R2, R3, R4⟩ := A3 hW
  have R2 := Lib.hid R2
  have R3 := Lib.hid R3
  have R4 := Lib.hid R4
  clear hW hsz
  rw [show w.heap.size + 1 + 1 = w.heap.size + 2 from rfl]
  have n1 : ¬ w.heap.size = w.heap.size + 2 := by omega
  have n2 : ¬ w.heap.size + 1 = w.heap.size + 2 := by omega
  have n3 : ¬ w.heap.size + 2 = w.heap.size := by omega
  have n4 : ¬ w.heap.size + 2 = w.heap.size + 1 := by omega
  obtain ⟨R2c0, R2c1, R2f0, R2f1⟩ := row2 R2.out
  obtain ⟨R3c0, R3c1, R3f0, R3f1⟩ := row2 R3.out
  obtain ⟨R4c0, R4c1, R4f0, R4f1⟩ := row2 R4.out
  have hB0 := hB.drew
  first
  | go_region_held3 (fun w' => w'.cell? ⟨w.heap.size, 0, none⟩ = some (.string s1) ∧ w'.cell? ⟨w.heap.size, 1, none⟩ = some (.string s2) ∧ w'.cell? ⟨w.heap.size + 1, 0, none⟩ = some (.string s3) ∧ w'.cell? ⟨w.heap.size + 1, 1, none⟩ = some (.string s4)) (first | exact ⟨by assumption, by assumption, by assumption, by assumption⟩ | go_keep)
      (first
        | (go_at_call 252; (with_reducible refine (HO.out _).mono ?_); rintro e w1 ⟨rfl, hb⟩; have hB1 := bstep hB0 hb; have R2 := Lib.hid (keep hb R2.out); have R3 := Lib.hid (keep hb R3.out); have R4 := Lib.hid (keep hb R4.out); obtain ⟨c0, c1, c2, c3⟩ := row2 R2.out; obtain ⟨d0, d1, d2, d3⟩ := row2 R3.out; clear hb)
        | (go_at_call 249; (with_reducible refine (HP.out _ (HE.out.below hB1)).mono ?_); rintro e w2 ⟨rfl, hb⟩; have hB2 := bstep hB1 hb; have R2 := Lib.hid (keep hb R2.out); have R3 := Lib.hid (keep hb R3.out); have R4 := Lib.hid (keep hb R4.out); obtain ⟨c0, c1, c2, c3⟩ := row2 R2.out; obtain ⟨d0, d1, d2, d3⟩ := row2 R3.out; obtain ⟨e0, e1, e2, e3⟩ := row2 R4.out; clear hb))
  | fail
  all_goals
    go_wp2_with fail
    exact bodyPost_ret (res_c rfl frac_row rfl (store2 R4.out _ _) rfl) rfl ⟨rfl, store2_below hB2 (by omega) _ _⟩

theorem sz_inv {x : Rat} {a : Nat} (hx : Sz a x) (h : x ≠ 0) : Sz a x⁻¹ := by
  have hn0 : x.num ≠ 0 := fun e => h (Rat.num_eq_zero.1 e)
  unfold Sz at hx ⊢
  rcases Int.lt_or_le x.num 0 with h1 | h1
  · rw [(rat_inv_neg h1).1, (rat_inv_neg h1).2, Int.natAbs_neg, Int.natAbs_natCast]; exact ⟨hx.2, hx.1⟩
  · rw [(rat_inv_pos (x := x) (by omega)).1, (rat_inv_pos (x := x) (by omega)).2, Int.natAbs_natCast]; exact ⟨hx.2, hx.1⟩

set_option maxRecDepth 100000 in
set_option maxHeartbeats 4000000 in
theorem ra_over (x y : Rat) (w : World) (hE : Env w) (hx : Sz 5000000 x) (hy : Sz 5000000 y) (h0 : y ≠ 0) :
    Calls Tryz.prog 253 #[fV x, fV y] w fun e w' => e = .returned (fV (x / y)) ∧ Below w.heap.size w w' := by
  rw [Rat.div_def]
  have HO := Lib.hid (fun w => ra_inverse y w (hy.mono (by decide)) h0)
  have HP := Lib.hid (fun w hE => ra_times x y⁻¹ w hE hx (sz_inv hy h0))
  have HE := Lib.hid hE
  clear hE hx hy h0
  unfold fV at *
  generalize iS (x * y⁻¹).num = r1 at *
  generalize nS (x * y⁻¹).den = r2 at *
  generalize iS y⁻¹.num = t1 at *
  generalize nS y⁻¹.den = t2 at *
  generalize iS x.num = s1 at *
  generalize nS x.den = s2 at *
  generalize iS y.num = s3 at *
  generalize nS y.den = s4 at *
  clear x y
  go_enter Tryz.func253, Tryz.ntmps253
  go_wp2_with fail
  generalize hW : ((World.alloc w _).alloc _).alloc _ = W
  obtain ⟨hB, hsz, R2, R3, R4⟩ := A3 hW
  have R2 := Lib.hid R2
  have R3 := Lib.hid R3
  have R4 := Lib.hid R4
  clear hW hsz
  rw [show w.heap.size + 1 + 1 = w.heap.size + 2 from rfl]
  have n1 : ¬ w.heap.size = w.heap.size + 2 := by omega
  have n2 : ¬ w.heap.size + 1 = w.heap.size + 2 := by omega
  have n3 : ¬ w.heap.size + 2 = w.heap.size := by omega
  have n4 : ¬ w.heap.size + 2 = w.heap.size + 1 := by omega
  obtain ⟨R2c0, R2c1, R2f0, R2f1⟩ := row2 R2.out
  obtain ⟨R3c0, R3c1, R3f0, R3f1⟩ := row2 R3.out
  obtain ⟨R4c0, R4c1, R4f0, R4f1⟩ := row2 R4.out
  have hB0 := hB.drew
  first
  | go_region_held3 (fun w' => w'.cell? ⟨w.heap.size, 0, none⟩ = some (.string s1) ∧ w'.cell? ⟨w.heap.size, 1, none⟩ = some (.string s2) ∧ w'.cell? ⟨w.heap.size + 1, 0, none⟩ = some (.string s3) ∧ w'.cell? ⟨w.heap.size + 1, 1, none⟩ = some (.string s4)) (first | exact ⟨by assumption, by assumption, by assumption, by assumption⟩ | go_keep)
      (first
        | (go_at_call 254; (with_reducible refine (HO.out _).mono ?_); rintro e w1 ⟨rfl, hb⟩; have hB1 := bstep hB0 hb; have R2 := Lib.hid (keep hb R2.out); have R3 := Lib.hid (keep hb R3.out); have R4 := Lib.hid (keep hb R4.out); obtain ⟨c0, c1, c2, c3⟩ := row2 R2.out; obtain ⟨d0, d1, d2, d3⟩ := row2 R3.out; clear hb)
        | (go_at_call 250; (with_reducible refine (HP.out _ (HE.out.below hB1)).mono ?_); rintro e w2 ⟨rfl, hb⟩; have hB2 := bstep hB1 hb; have R2 := Lib.hid (keep hb R2.out); have R3 := Lib.hid (keep hb R3.out); have R4 := Lib.hid (keep hb R4.out); obtain ⟨c0, c1, c2, c3⟩ := row2 R2.out; obtain ⟨d0, d1, d2, d3⟩ := row2 R3.out; obtain ⟨e0, e1, e2, e3⟩ := row2 R4.out; clear hb))
  | fail
  all_goals
    go_wp2_with fail
    exact bodyPost_ret (res_c rfl frac_row rfl (store2 R4.out _ _) rfl) rfl ⟨rfl, store2_below hB2 (by omega) _ _⟩
end Go.Proofs.YthkkdepppjiaeaaGreatDoor

/- Walks of the program's package rational: both, apply, Add, Sub, Mul, Div. -/
namespace Go.Proofs.YthkkdepppjiaeaaGreatDoor
open Go.RowKit Go.Shelf Go.Sort Go.MapKept

attribute [local go_sem] Oper.semAt_some

set_option maxRecDepth 100000 in
set_option maxHeartbeats 4000000 in
theorem ra_both (x y : Rat) (w : World) (hE : Env w) (hx : Sz 20000000 x) (hy : Sz 20000000 y) :
    Calls Tryz.prog 138 #[.string (rs x), .string (rs y)] w fun e w' => e = .returned (.tuple #[fV x, fV y, .int .i64 0]) ∧ Below w.heap.size w w' := by
  have HX := Lib.hid (fun w hE => ra_read x w hE hx)
  have HY := Lib.hid (fun w hE => ra_read y w hE hy)
  have HE := Lib.hid hE
  clear hE hx hy
  generalize rs x = X at *
  generalize rs y = Y at *
  unfold fV at *
  generalize iS x.num = a at *
  generalize nS x.den = s at *
  generalize iS y.num = b at *
  generalize nS y.den = t at *
  clear x y
  go_enter Tryz.func138, Tryz.ntmps138
  go_wp2_with fail
  generalize hW : (World.alloc w _).alloc _ = W
  obtain ⟨hB, hsz, R4, R5⟩ := A2 hW
  have R4 := Lib.hid R4
  have R5 := Lib.hid R5
  clear hW hsz
  refine (HX.out _ (HE.out.below hB)).mono ?_
  rintro e w1 ⟨rfl, hb⟩
  replace hB := bstep hB hb
  have R4 := Lib.hid (keep hb R4.out)
  have R5 := Lib.hid (keep hb R5.out)
  clear hb
  go_wp2_with fail
  generalize hW : World.alloc _ _ = V
  obtain ⟨hb, hsz, R7⟩ := A1 hW
  replace hB := bstep hB hb
  have R4 := Lib.hid (keep hb R4.out)
  have R5 := Lib.hid (keep hb R5.out)
  clear hb
  have R7 := Lib.hid R7
  clear hW hsz
  refine (HY.out _ (HE.out.below hB)).mono ?_
  rintro e w2 ⟨rfl, hb⟩
  replace hB := bstep hB hb
  have R4 := Lib.hid (keep hb R4.out)
  have R5 := Lib.hid (keep hb R5.out)
  have R7 := Lib.hid (keep hb R7.out)
  clear hb
  have l4 := lt_of_row R4.out
  have l5 := lt_of_row R5.out
  have n1 : ¬ w2.heap.size = w.heap.size := by omega
  have n2 : ¬ w.heap.size = w2.heap.size := by omega
  have n3 : ¬ w2.heap.size = w.heap.size + 1 := by omega
  have n4 : ¬ w.heap.size + 1 = w2.heap.size := by omega
  clear l4 l5
  go_wp2_with fail
  generalize hW : World.alloc _ _ = U
  obtain ⟨hb, hsz, R9⟩ := A1 hW
  replace hB := bstep hB hb
  have R4 := Lib.hid (keep hb R4.out)
  have R5 := Lib.hid (keep hb R5.out)
  have R7 := Lib.hid (keep hb R7.out)
  clear hb
  have R9 := Lib.hid R9
  clear hW hsz
  obtain ⟨R4c0, R4c1, R4f0, R4f1⟩ := row2 R4.out
  obtain ⟨R5c0, R5c1, R5f0, R5f1⟩ := row2 R5.out
  obtain ⟨R7c0, R7c1, R7f0, R7f1⟩ := row2 R7.out
  obtain ⟨R9c0, R9c1, R9f0, R9f1⟩ := row2 R9.out
  clear HX HY
  go_region
  all_goals
    go_wp2_with fail
    exact bodyPost_ret (res_cct rfl frac_row frac_row rfl rfl (store2_other (by omega) (store2 R4.out _ _) _ _) (store2 (store2_other (by omega) R5.out _ _) _ _) rfl rfl) rfl ⟨rfl, (store2_below (store2_below hB (Nat.le_refl _) _ _) (by omega) _ _).drew⟩

set_option maxRecDepth 100000 in
set_option maxHeartbeats 4000000 in
theorem ra_apply (c : Int) (i g : Nat) (x y z : Rat) (w : World) (hE : Env w) (hx : Sz 5000000 x) (hy : Sz 5000000 y) (hz : Sz 40000000 z)
    (hc : (c = 47 ∧ y ≠ 0) ∨ (c == 47) = false)
    (hf : Instr.findNow (.int .u8) (.int .u8 c) opsMap.toList 0 = some (some (i, fnV g)))
    (eg : ∀ args w, (callFunc g args).run Tryz.prog w = .ok (.enter g args) w)
    (hop : ∀ w, Env w → Calls Tryz.prog g #[fV x, fV y] w fun e w' => e = .returned (fV z) ∧ Below w.heap.size w w') :
    Calls Tryz.prog 179 #[.int .u8 c, .string (rs x), .string (rs y)] w fun e w' => e = .returned (.tuple #[.string (rs z), .int .i64 0]) ∧ Below w.heap.size w w' := by
  have HB := Lib.hid (fun w hE => ra_both x y w hE (hx.mono (by decide)) (hy.mono (by decide)))
  have HT := Lib.hid (fun w => ra_text z w hz)
  have HO := Lib.hid hop
  have HL := Lib.hid (fun (w : World) (r : Nat) (hr : w.heap[r]? = some (.map opsMap 4)) => run_lookup_known (P := Tryz.prog) (w := w) (key := .int .u8 c) Tryz.underlying253 Tryz.underlying5 hr rfl hf)
  have hc2 : (c = 47 ∧ ((iS y.num).toList == [48]) = false) ∨ (c == 47) = false := by
    rcases hc with ⟨h, h0⟩ | h
    · exact Or.inl ⟨h, by rw [iS_zero, decide_eq_false (fun e => h0 (Rat.num_eq_zero.1 e))]⟩
    · exact Or.inr h
  have HE := Lib.hid hE
  clear hE hx hy hz hop hf hc
  unfold fV at *
  generalize rs z = Z at *
  generalize rs x = X at *
  generalize rs y = Y at *
  generalize iS z.num = r1 at *
  generalize nS z.den = r2 at *
  generalize iS x.num = s1 at *
  generalize nS x.den = s2 at *
  generalize iS y.num = s3 at *
  generalize nS y.den = s4 at *
  clear x y z
  obtain ⟨k, hk, hk2⟩ : ∃ k : Bool, (c == 47) = k ∧ (k = true → (s3.toList == [48]) = false) := by
    rcases hc2 with ⟨h1, h2⟩ | h
    · exact ⟨true, by rw [h1]; rfl, fun _ => h2⟩
    · exact ⟨false, h, fun e => by cases e⟩
  clear hc2
  cases k
  all_goals
    first | (have hk3 := hk2 rfl; clear hk2) | clear hk2
    go_enter Tryz.func179, Tryz.ntmps179
    go_wp2_with fail
    refine (HB.out _ HE.out).mono ?_
    rintro e w1 ⟨rfl, hB⟩
    go_wp2_with fail
    generalize hW : (World.alloc _ _).alloc _ = V
    obtain ⟨hb, hsz, R8, R9⟩ := A2 hW
    replace hB := bstep hB hb
    clear hb
    have R8 := Lib.hid R8
    have R9 := Lib.hid R9
    clear hW hsz
    obtain ⟨R8c0, R8c1, R8f0, R8f1⟩ := row2 R8.out
    obtain ⟨R9c0, R9c1, R9f0, R9f1⟩ := row2 R9.out
    have hB0 := hB.drew
    first
    | go_region_held3 (fun w' => w'.cell? ⟨w1.heap.size, 0, none⟩ = some (.string s1) ∧ w'.cell? ⟨w1.heap.size, 1, none⟩ = some (.string s2) ∧ w'.cell? ⟨w1.heap.size + 1, 0, none⟩ = some (.string s3) ∧ w'.cell? ⟨w1.heap.size + 1, 1, none⟩ = some (.string s4)) (first | exact ⟨by assumption, by assumption, by assumption, by assumption⟩ | go_keep)
        (first
          | (go_at_call 203; (with_reducible refine (ra_all _).mono ?_); rintro e w2 ⟨r, rfl, hr, hb⟩; have hlk := HL.out _ r hr; clear hr; have hB1 := bstep hB0 hb; have R8 := Lib.hid (keep hb R8.out); have R9 := Lib.hid (keep hb R9.out); obtain ⟨c0, c1, c2, c3⟩ := row2 R8.out; obtain ⟨d0, d1, d2, d3⟩ := row2 R9.out; clear hb)
          | (go_at_call 204; (with_reducible refine (HT.out _).mono ?_); rintro e w4 ⟨rfl, hb⟩; have hB3 := bstep hB2 hb; have R8 := Lib.hid (keep hb R8.out); have R9 := Lib.hid (keep hb R9.out); obtain ⟨c0, c1, c2, c3⟩ := row2 R8.out; obtain ⟨d0, d1, d2, d3⟩ := row2 R9.out; clear hb)
          | ((with_reducible refine (HO.out _ (HE.out.below hB1)).mono ?_); rintro e w3 ⟨rfl, hb⟩; clear hlk; have hB2 := bstep hB1 hb; have R8 := Lib.hid (keep hb R8.out); have R9 := Lib.hid (keep hb R9.out); obtain ⟨c0, c1, c2, c3⟩ := row2 R8.out; obtain ⟨d0, d1, d2, d3⟩ := row2 R9.out; clear hb))
    | fail
    all_goals
      go_wp2_with fail
      exact bodyPost_ret (results_tmp2 rfl _ _ _) rfl ⟨rfl, hB3⟩
end Go.Proofs.YthkkdepppjiaeaaGreatDoor

/- Walks of the program's package rational: Add, Sub, Mul, Div, Compare. -/
namespace Go.Proofs.YthkkdepppjiaeaaGreatDoor
open Go.RowKit Go.Shelf Go.Sort Go.MapKept

attribute [local go_sem] Oper.semAt_some

set_option maxHeartbeats 2000000 in
theorem ra_Add (x y : Rat) (w : World) (hE : Env w) (hx : Sz 5000000 x) (hy : Sz 5000000 y) :
    Calls Tryz.prog 181 #[.string (rs x), .string (rs y)] w fun e w' => e = .returned (.tuple #[.string (rs (x + y)), .int .i64 0]) ∧ Below w.heap.size w w' := by
  have HA := Lib.hid (ra_apply 43 0 249 x y (x + y) w hE hx hy ((sz_add hx hy).mono (by decide)) (Or.inr rfl) rfl (enters_of Tryz.func249 (by kernel_rfl) rfl) (fun w hE => ra_plus x y w hE hx hy))
  clear hE hx hy
  go_enter Tryz.func181, Tryz.ntmps181
  go_wp2_with fail
  refine HA.out.mono ?_
  rintro e w1 ⟨rfl, hB⟩
  go_wp2_with fail
  exact bodyPost_ret (results_tmp2 rfl _ _ _) rfl ⟨rfl, hB⟩
set_option maxHeartbeats 2000000 in
theorem ra_Sub (x y : Rat) (w : World) (hE : Env w) (hx : Sz 5000000 x) (hy : Sz 5000000 y) :
    Calls Tryz.prog 156 #[.string (rs x), .string (rs y)] w fun e w' => e = .returned (.tuple #[.string (rs (x - y)), .int .i64 0]) ∧ Below w.heap.size w w' := by
  have HA := Lib.hid (ra_apply 45 2 251 x y (x - y) w hE hx hy ((sz_sub hx hy).mono (by decide)) (Or.inr rfl) rfl (enters_of Tryz.func251 (by kernel_rfl) rfl) (fun w hE => ra_minus x y w hE hx hy))
  clear hE hx hy
  go_enter Tryz.func156, Tryz.ntmps156
  go_wp2_with fail
  refine HA.out.mono ?_
  rintro e w1 ⟨rfl, hB⟩
  go_wp2_with fail
  exact bodyPost_ret (results_tmp2 rfl _ _ _) rfl ⟨rfl, hB⟩
set_option maxHeartbeats 2000000 in
theorem ra_Mul (x y : Rat) (w : World) (hE : Env w) (hx : Sz 5000000 x) (hy : Sz 5000000 y) :
    Calls Tryz.prog 152 #[.string (rs x), .string (rs y)] w fun e w' => e = .returned (.tuple #[.string (rs (x * y)), .int .i64 0]) ∧ Below w.heap.size w w' := by
  have HA := Lib.hid (ra_apply 42 1 250 x y (x * y) w hE hx hy ((sz_mul hx hy).mono (by decide)) (Or.inr rfl) rfl (enters_of Tryz.func250 (by kernel_rfl) rfl) (fun w hE => ra_times x y w hE hx hy))
  clear hE hx hy
  go_enter Tryz.func152, Tryz.ntmps152
  go_wp2_with fail
  refine HA.out.mono ?_
  rintro e w1 ⟨rfl, hB⟩
  go_wp2_with fail
  exact bodyPost_ret (results_tmp2 rfl _ _ _) rfl ⟨rfl, hB⟩
theorem sz_div {x y : Rat} {a b : Nat} (hx : Sz a x) (hy : Sz b y) (h0 : y ≠ 0) : Sz (a + b) (x / y) := by
  rw [Rat.div_def]; exact sz_mul hx (sz_inv hy h0)
set_option maxHeartbeats 2000000 in
theorem ra_Div (x y : Rat) (w : World) (hE : Env w) (hx : Sz 5000000 x) (hy : Sz 5000000 y) (h0 : y ≠ 0) :
    Calls Tryz.prog 202 #[.string (rs x), .string (rs y)] w fun e w' => e = .returned (.tuple #[.string (rs (x / y)), .int .i64 0]) ∧ Below w.heap.size w w' := by
  have HA := Lib.hid (ra_apply 47 3 253 x y (x / y) w hE hx hy ((sz_div hx hy h0).mono (by decide)) (Or.inl ⟨rfl, h0⟩) rfl (enters_of Tryz.func253 (by kernel_rfl) rfl) (fun w hE => ra_over x y w hE hx hy h0))
  clear hE hx hy h0
  go_enter Tryz.func202, Tryz.ntmps202
  go_wp2_with fail
  refine HA.out.mono ?_
  rintro e w1 ⟨rfl, hB⟩
  go_wp2_with fail
  exact bodyPost_ret (results_tmp2 rfl _ _ _) rfl ⟨rfl, hB⟩

/-- What Compare returns. -/
def cmpQ (x y : Rat) : Int := cmpI (x.num * (y.den : Int)) (y.num * (x.den : Int))
theorem cmpQ_neg {x y : Rat} : cmpQ x y < 0 ↔ x < y := by
  unfold cmpQ; rw [cmpI_neg, Rat.lt_iff]
theorem cmpQ_self (x : Rat) : cmpQ x x = 0 := by unfold cmpQ cmpI; simp
theorem cmp_sign (a b c d : Int) (hb : 0 < b) (hd : 0 < d) (h : a.sign ≠ c.sign) : max (-1) (min (a.sign - c.sign) 1) = cmpI (a * d) (c * b) := by
  unfold cmpI
  rcases Int.lt_trichotomy a 0 with h1 | h1 | h1 <;> rcases Int.lt_trichotomy c 0 with h2 | h2 | h2
  · rw [Int.sign_eq_neg_one_of_neg h1, Int.sign_eq_neg_one_of_neg h2] at h; exact absurd rfl h
  · have := Int.mul_neg_of_neg_of_pos h1 hd
    subst h2
    rw [Int.sign_eq_neg_one_of_neg h1, if_pos (by simpa using this)]; decide
  · have := Int.mul_neg_of_neg_of_pos h1 hd
    have := Int.mul_pos h2 hb
    rw [Int.sign_eq_neg_one_of_neg h1, Int.sign_eq_one_of_pos h2, if_pos (by omega)]; decide
  · have := Int.mul_neg_of_neg_of_pos h2 hb
    subst h1
    rw [Int.sign_eq_neg_one_of_neg h2, if_neg (by simp; omega), if_pos (by simpa using this)]; decide
  · rw [h1, h2] at h; exact absurd rfl h
  · have := Int.mul_pos h2 hb
    subst h1
    rw [Int.sign_eq_one_of_pos h2, if_pos (by simpa using this)]; decide
  · have := Int.mul_neg_of_neg_of_pos h2 hb
    have := Int.mul_pos h1 hd
    rw [Int.sign_eq_one_of_pos h1, Int.sign_eq_neg_one_of_neg h2, if_neg (by omega), if_pos (by omega)]; decide
  · have := Int.mul_pos h1 hd
    subst h2
    rw [Int.sign_eq_one_of_pos h1, if_neg (by simp; omega), if_pos (by simpa using this)]; decide
  · rw [Int.sign_eq_one_of_pos h1, Int.sign_eq_one_of_pos h2] at h; exact absurd rfl h
theorem rs_eq (x y : Rat) : ((rs x).toList == (rs y).toList) = decide (x = y) := by
  rw [ByteArray.toList_eq, ByteArray.toList_eq]
  by_cases h : x = y
  · subst h; simp
  · rw [decide_eq_false h]
    exact beq_eq_false_iff_ne.2 (fun e => h (rs_inj (ByteArray.ext (Array.toList_inj.1 e))))

set_option maxRecDepth 100000 in
set_option maxHeartbeats 4000000 in
theorem ra_Compare (x y : Rat) (w : World) (hE : Env w) (hx : Sz 5000000 x) (hy : Sz 5000000 y) :
    Calls Tryz.prog 95 #[.string (rs x), .string (rs y)] w fun e w' => e = .returned (.tuple #[.int .i64 (cmpQ x y), .int .i64 0]) ∧ Below w.heap.size w w' := by
  have heq := rs_eq x y
  have HB := Lib.hid (fun w hE => ra_both x y w hE (hx.mono (by decide)) (hy.mono (by decide)))
  have HE := Lib.hid hE
  have S1 := Lib.hid (fun w => ra_sign x w (hx.mono (by decide)))
  have S2 := Lib.hid (fun w => ra_sign y w (hy.mono (by decide)))
  obtain ⟨a1, a2⟩ := hx
  obtain ⟨b1, b2⟩ := hy
  have n1 := nl_mulI x.num y.den
  have n2 := nl_mulI y.num x.den
  rw [Int.natAbs_natCast] at n1 n2
  have M1 := fun w hE => in_Mul x.num y.den w hE (by omega) (by rw [Int.natAbs_natCast]; omega)
  have M2 := fun w hE => in_Mul y.num x.den w hE (by omega) (by rw [Int.natAbs_natCast]; omega)
  have M3 := fun w hE => in_Compare (x.num * (y.den : Int)) (y.num * (x.den : Int)) w hE (by omega) (by omega)
  rw [iS_nat] at M1 M2
  have M1 := Lib.hid M1
  have M2 := Lib.hid M2
  have M3 := Lib.hid M3
  clear hE a1 a2 b1 b2 n1 n2
  by_cases hxy : x = y
  · rw [decide_eq_true hxy] at heq
    have hc : cmpQ x y = 0 := by rw [hxy, cmpQ_self]
    rw [hc]
    clear hc hxy S1 S2 M1 M2 M3
    unfold fV at *
    go_enter Tryz.func95, Tryz.ntmps95
    go_wp2_with fail
    refine (HB.out _ HE.out).mono ?_
    rintro e w1 ⟨rfl, hB⟩
    go_wp2_with fail
    exact bodyPost_ret (results_tmp2 rfl _ _ _) rfl ⟨rfl, bstep hB (A2 rfl).1⟩
  · rw [decide_eq_false hxy] at heq
    have hcs := cmp_sign x.num x.den y.num y.den (by have := x.den_nz; omega) (by have := y.den_nz; omega)
    unfold cmpQ
    have hs1 : -1 ≤ x.num.sign ∧ x.num.sign ≤ 1 := by
      rcases Int.sign_trichotomy x.num with h | h | h <;> omega
    have hs2 : -1 ≤ y.num.sign ∧ y.num.sign ≤ 1 := by
      rcases Int.sign_trichotomy y.num with h | h | h <;> omega
    unfold fV at *
    generalize cmpI (x.num * (y.den : Int)) (y.num * (x.den : Int)) = res at *
    generalize x.num.sign = s at *
    generalize y.num.sign = t at *
    generalize iS (x.num * (y.den : Int)) = t3 at *
    generalize iS (y.num * (x.den : Int)) = t4 at *
    generalize rs x = X at *
    generalize rs y = Y at *
    generalize iS x.num = s1 at *
    generalize nS x.den = s2 at *
    generalize iS y.num = s3 at *
    generalize nS y.den = s4 at *
    clear hxy
    clear x y
    obtain ⟨ha1, ha2⟩ := hs1
    obtain ⟨hb1, hb2⟩ := hs2
    by_cases hst : s = t
    all_goals
      first | (have hst2 : (s != t) = false := by rw [hst]; exact bne_self_eq_false t) | (have hst2 : (s != t) = true := by rw [bne_iff_ne]; exact hst)
      have HC := Lib.hid hcs
      have HST := Lib.hid hst
      clear hcs hst
      go_enter Tryz.func95, Tryz.ntmps95
      go_wp2_with fail
      refine (HB.out _ HE.out).mono ?_
      rintro e w1 ⟨rfl, hB⟩
      go_wp2_with fail
      generalize hW : (World.alloc _ _).alloc _ = V
      obtain ⟨hb, hsz, R6, R7⟩ := A2 hW
      replace hB := bstep hB hb
      clear hb
      have R6 := Lib.hid R6
      have R7 := Lib.hid R7
      clear hW hsz
      have h0 : ∀ d os, (grow (redrawn V d) os).cell? ⟨w1.heap.size, 0, none⟩ = some (.string s1) := fun d os => cell_regrown (row2 R6.out).1 d os
      have h1 : ∀ d os, (grow (redrawn V d) os).cell? ⟨w1.heap.size, 1, none⟩ = some (.string s2) := fun d os => cell_regrown (row2 R6.out).2.1 d os
      have h2 : ∀ d os, (grow (redrawn V d) os).cell? ⟨w1.heap.size + 1, 0, none⟩ = some (.string s3) := fun d os => cell_regrown (row2 R7.out).1 d os
      have h3 : ∀ d os, (grow (redrawn V d) os).cell? ⟨w1.heap.size + 1, 1, none⟩ = some (.string s4) := fun d os => cell_regrown (row2 R7.out).2.1 d os
      have S1 := Lib.hid (fun d os => Calls.regrown_of (S1.out (grow (redrawn V d) os)))
      have S2 := Lib.hid (fun d os => Calls.regrown_of (S2.out (grow (redrawn V d) os)))
      refine wp_region_quiet_below (by kernel_rfl) (by kernel_rfl) ?_
      repeat (first | quiet_step (with_reducible exact S1.out _ _) | quiet_step (with_reducible exact S2.out _ _))
      refine wpQuiet_nil ?_
      intro _ hw'
      obtain ⟨⟨dq, osq⟩, hw''⟩ := hw'
      subst hw''
      have hb := below_regrown V dq osq
      clear h0 h1 h2 h3 S1 S2
      generalize grow (redrawn V dq) osq = W2 at *
      replace hB := bstep hB hb
      have R6 := Lib.hid (keep hb R6.out)
      have R7 := Lib.hid (keep hb R7.out)
      clear hb
      obtain ⟨R6c0, R6c1, R6f0, R6f1⟩ := row2 R6.out
      obtain ⟨R7c0, R7c1, R7f0, R7f1⟩ := row2 R7.out
      go_wp2_with fail
    · clear R6c0 R6c1 R6f0 R6f1
      clear R7c0 R7c1 R7f0 R7f1
      refine (M1.out _ (HE.out.below hB)).mono ?_
      rintro e w3 ⟨rfl, hb⟩
      replace hB := bstep hB hb
      have R6 := Lib.hid (keep hb R6.out)
      have R7 := Lib.hid (keep hb R7.out)
      clear hb
      obtain ⟨R6c0, R6c1, R6f0, R6f1⟩ := row2 R6.out
      obtain ⟨R7c0, R7c1, R7f0, R7f1⟩ := row2 R7.out
      go_wp2_with fail
      clear R6c0 R6c1 R6f0 R6f1
      clear R7c0 R7c1 R7f0 R7f1
      refine (M2.out _ (HE.out.below hB)).mono ?_
      rintro e w4 ⟨rfl, hb⟩
      replace hB := bstep hB hb
      have R6 := Lib.hid (keep hb R6.out)
      have R7 := Lib.hid (keep hb R7.out)
      clear hb
      go_wp2_with fail
      refine (M3.out _ (HE.out.below hB)).mono ?_
      rintro e w5 ⟨rfl, hb⟩
      replace hB := bstep hB hb
      clear hb
      go_wp2_with fail
      exact bodyPost_ret (results_tmp2 rfl _ _ _) rfl ⟨rfl, hB⟩
    · rw [HC.out HST.out]
      exact bodyPost_ret (results_tmp2 rfl _ _ _) rfl ⟨rfl, hB⟩
end Go.Proofs.YthkkdepppjiaeaaGreatDoor
