/- A PART OF THE PROOF, JOINED OUT OF 6 TEXTS. -/
import Derived.Test.YtgbabmkclojgeaaGreatDoorPmVector
/- Walks of the laws' helpers: vec, Few, few; Through and Crossing at numbers. -/
namespace Go.Proofs.YtgbabmkclojgeaaGreatDoor
open Go.RowKit Go.Shelf Go.Sort

attribute [local go_sem] Oper.semAt_some vec_guard vec_eq

theorem szV_sub {k : Nat} {a b : V3} (ha : SzV k a) (hb : SzV k b) : SzV (4 * k) (subV a b) :=
  ⟨(sz_sub ha.1 hb.1).mono (by omega), (sz_sub ha.2.1 hb.2.1).mono (by omega), (sz_sub ha.2.2 hb.2.2).mono (by omega)⟩
theorem szV_add {k : Nat} {a b : V3} (ha : SzV k a) (hb : SzV k b) : SzV (4 * k) (addV a b) :=
  ⟨(sz_add ha.1 hb.1).mono (by omega), (sz_add ha.2.1 hb.2.1).mono (by omega), (sz_add ha.2.2 hb.2.2).mono (by omega)⟩
theorem szV_scale {k j : Nat} {a : V3} {t : Rat} (ha : SzV k a) (ht : Sz j t) : SzV (k + j) (scaleV a t) := ⟨sz_mul ha.1 ht, sz_mul ha.2.1 ht, sz_mul ha.2.2 ht⟩

/-- The normal of the plane through three points. -/
def nrm (a b c : V3) : V3 := crossV (subV b a) (subV c a)
theorem szV_nrm {k : Nat} {a b c : V3} (ha : SzV k a) (hb : SzV k b) (hc : SzV k c) : SzV (32 * k) (nrm a b c) := (szV_cross (szV_sub hb ha) (szV_sub hc ha)).mono (by omega)

theorem ve_Through (a b c : V3) (w : World) (hE : Env w) (ha : SzV 50 a) (hb : SzV 50 b) (hc : SzV 50 c) (h0 : zero3 (nrm a b c) = false) :
    Calls Tryz.prog 36 #[vV a, vV b, vV c] w fun e w' => e = .returned (.tuple #[pV (nrm a b c) (dotV (nrm a b c) a), .int .i64 0]) ∧ Below w.heap.size w w' := by
  have hn := szV_nrm ha hb hc
  refine ve_Through_aux _ _ _ _ _ _ _ _ _ (rs (subV b a).x) (rs (subV b a).y) (rs (subV b a).z) (rs (subV c a).x) (rs (subV c a).y) (rs (subV c a).z) _ _ _ _ w hE (sh_of ha (by decide)) (sh_of hb (by decide)) (sh_of hc (by decide)) (chk3_rs a b c)
    (fun w hE => zip_sub b a w hE (hb.mono (by decide)) (ha.mono (by decide))) (fun w hE => zip_sub c a w hE (hc.mono (by decide)) (ha.mono (by decide)))
    (fun w hE => ve_cross (subV b a) (subV c a) w hE ((szV_sub hb ha).mono (by decide)) ((szV_sub hc ha).mono (by decide)))
    (fun w hE => ve_dot (nrm a b c) a w hE (hn.mono (by decide)) (ha.mono (by decide))) ?_
  intro w hE
  have h := ve_plane_rs (nrm a b c) (dotV (nrm a b c) a) w hE (hn.mono (by decide)) ((sz_dot hn (ha.mono (by decide))).mono (by decide))
  rw [h0] at h
  exact h

/-- The crossing of an edge with a plane. -/
def crs (n : V3) (c : Rat) (a b : V3) : V3 := addV a (scaleV (subV b a) (hgt n c a / (hgt n c a - hgt n c b)))

theorem ve_Crossing (n : V3) (c : Rat) (a b : V3) (w : World) (hE : Env w) (hn : SzV 50 n) (hc : Sz 50 c) (ha : SzV 50 a) (hb : SzV 50 b) (h0 : zero3 n = false)
    (hs : ((decide (0 < cmpQ (hgt n c a) 0)) == (decide (0 < cmpQ (hgt n c b) 0))) = false) (hne : hgt n c a - hgt n c b ≠ 0) :
    Calls Tryz.prog 38 #[pV n c, vV a, vV b] w fun e w' => e = .returned (.tuple #[vV (crs n c a b), .int .i64 0]) ∧ Below w.heap.size w w' := by
  have h1 := sz_hgt hn hc ha
  have h2 := sz_hgt hn hc hb
  have h3 := sz_sub h1 h2
  have h4 := sz_div h1 h3 hne
  have h5 := szV_scale (szV_sub hb ha) h4
  refine ve_Crossing_aux _ _ _ _ _ _ _ _ _ _ _ _ (rs (hgt n c a - hgt n c b)) (rs (hgt n c a / (hgt n c a - hgt n c b))) (rs (subV b a).x) (rs (subV b a).y) (rs (subV b a).z)
    (rs (scaleV (subV b a) (hgt n c a / (hgt n c a - hgt n c b))).x) (rs (scaleV (subV b a) (hgt n c a / (hgt n c a - hgt n c b))).y) (rs (scaleV (subV b a) (hgt n c a / (hgt n c a - hgt n c b))).z) _ _ _ _ _ w hE (sh_of ha (by decide)) (sh_of hb (by decide)) (chk2_rs a b) hs
    ?_ (fun w hE => ve_height n c a w hE (hn.mono (by decide)) (hc.mono (by decide)) (ha.mono (by decide))) (fun w hE => ve_height n c b w hE (hn.mono (by decide)) (hc.mono (by decide)) (hb.mono (by decide)))
    (fun w hE => ve_sign _ w hE (h1.mono (by decide))) (fun w hE => ve_sign _ w hE (h2.mono (by decide))) (fun w hE => zip_sub b a w hE (hb.mono (by decide)) (ha.mono (by decide)))
    (fun w hE => ve_sub _ _ w hE (h1.mono (by decide)) (h2.mono (by decide))) (fun w hE => ve_div _ _ w hE (h1.mono (by decide)) (h3.mono (by decide)) hne)
    (fun w hE => ve_scale (subV b a) _ w hE ((szV_sub hb ha).mono (by decide)) (h4.mono (by decide))) (fun w hE => zip_add a _ w hE (ha.mono (by decide)) (h5.mono (by decide)))
  intro w hE
  have h := ve_plane_rs n c w hE (hn.mono (by decide)) (hc.mono (by decide))
  rw [h0] at h
  exact h

set_option maxHeartbeats 2000000 in
theorem la_vec (a b c : ByteArray) (w : World) :
    Calls Tryz.prog 67 #[.string a, .string b, .string c] w fun e w' => e = .returned (.agg #[.string a, .string b, .string c]) ∧ Below w.heap.size w w' := by
  go_enter Tryz.func67, Tryz.ntmps67
  go_upto_region 1 with fail
  generalize hW : World.alloc w _ = W
  obtain ⟨hB, hsz, R6⟩ := A1 hW
  have R6 := Lib.hid R6
  clear hW hsz
  obtain ⟨R6c0, R6c1, R6c2, R6f0, R6f1, R6f2⟩ := row3 R6.out
  go_wp2_with fail
  exact bodyPost_ret (res_c rfl vec_row rfl (store3 R6.out _ _ _) rfl) rfl ⟨rfl, store3_below hB (Nat.le_refl _) _ _ _⟩

/-- Are the three texts of at most 20 bytes? -/
def Sh20 (s : ByteArray × ByteArray × ByteArray) : Prop := s.1.size ≤ 20 ∧ s.2.1.size ≤ 20 ∧ s.2.2.size ≤ 20

set_option maxRecDepth 100000 in
set_option maxHeartbeats 4000000 in
theorem la_Few (b o n c : Nat) (S : Nat → ByteArray × ByteArray × ByteArray) (r : Bool) (w : World) (hn : n ≤ 100000000) (hS : VecsAt w b o n S) (hs : ∀ i, i < n → (S i).1.size ≤ 9223372036854775807 ∧ (S i).2.1.size ≤ 9223372036854775807 ∧ (S i).2.2.size ≤ 9223372036854775807)
    (hr0 : (∀ i, i < n → Sh20 (S i)) → r = true) (hr1 : (∃ i, i < n ∧ ¬ Sh20 (S i)) → r = false) :
    Calls Tryz.prog 46 #[.slice (some ⟨b, o, none⟩) n c] w fun e w' => e = .returned (.bool r) ∧ Below w.heap.size w w' := by
  have HS := Lib.hid hS
  have HZ := Lib.hid hs
  have HR0 := Lib.hid hr0
  have HR1 := Lib.hid hr1
  clear hS hs hr0 hr1
  go_enter Tryz.func46, Tryz.ntmps46
  go_wp2_with fail
  go_loopw [3] (fun x wr => ∃ k : Nat, k ≤ n ∧ x = .int .i64 k ∧ Below w.heap.size w wr ∧ Hid (∀ i, i < k → Sh20 (S i))) (fun x _ => n - (intOf x).toNat)
  case atStart => exact ⟨0, Nat.zero_le _, rfl, Below.refl _ _, Lib.hid (fun i hi => absurd hi (by omega))⟩
  case round =>
    obtain ⟨k, hk, rfl, hBr, HI⟩ := hrel
    by_cases hlt : k < n
    · obtain ⟨c0, c1, c2⟩ := (HS.out.below hBr) k hlt
      obtain ⟨z0, z1, z2⟩ := HZ.out k hlt
      have HI2 : Hid ((S k).1.size ≤ 20 → (S k).2.1.size ≤ 20 → (S k).2.2.size ≤ 20 → ∀ i, i < k + 1 → Sh20 (S i)) := Lib.hid (fun h1 h2 h3 i hi => by
        by_cases e : i = k
        · rw [e]; exact ⟨h1, h2, h3⟩
        · exact HI.out i (by omega))
      have HI3 : Hid (¬ ((S k).1.size ≤ 20 ∧ (S k).2.1.size ≤ 20 ∧ (S k).2.2.size ≤ 20) → r = false) := Lib.hid (fun h => HR1.out ⟨k, hlt, h⟩)
      clear HI
      generalize (S k).1 = s1 at *
      generalize (S k).2.1 = s2 at *
      generalize (S k).2.2 = s3 at *
      by_cases h1 : s1.size ≤ 20
      · by_cases h2 : s2.size ≤ 20
        · by_cases h3 : s3.size ≤ 20
          · have HI4 := Lib.hid (HI2.out h1 h2 h3)
            go_wp2_with fail
            go_roundw
            case rel => exact ⟨k + 1, by omega, by go_num, hBr, HI4⟩
            case measure => simp [intOf]; omega
          · have HI4 := Lib.hid (HI3.out (fun h => h3 h.2.2))
            go_wp2_with fail
            go_ret
            rw [HI4.out]
            exact ⟨rfl, hBr⟩
        · have HI4 := Lib.hid (HI3.out (fun h => h2 h.2.1))
          go_wp2_with fail
          go_ret
          rw [HI4.out]
          exact ⟨rfl, hBr⟩
      · have HI4 := Lib.hid (HI3.out (fun h => h1 h.1))
        go_wp2_with fail
        go_ret
        rw [HI4.out]
        exact ⟨rfl, hBr⟩
    · have hkn : k = n := by omega
      have HV2 : Hid (r = true) := Lib.hid (HR0.out (fun i hi => HI.out i (by omega)))
      go_wp2_with fail
      go_ret
      rw [HV2.out]
      exact ⟨rfl, hBr⟩
end Go.Proofs.YtgbabmkclojgeaaGreatDoor

/- Walks of the laws' helpers: few. -/
namespace Go.Proofs.YtgbabmkclojgeaaGreatDoor
open Go.RowKit Go.Shelf Go.Sort

attribute [local go_sem] Oper.semAt_some vec_guard vec_eq

theorem vecsAt1 {W : World} {N : Nat} {t : TypeId} {a0 a1 a2 : ByteArray} (h : W.heap[N]? = some (.cells #[.string a0, .string a1, .string a2] t (0, 0))) :
    VecsAt W N 0 1 (fun _ => (a0, a1, a2)) := by
  intro i hi
  match i, hi with
  | 0, _ => exact ⟨cell_of_row W _ 0 _ _ _ h, cell_of_row W _ 1 _ _ _ h, cell_of_row W _ 2 _ _ _ h⟩

/-- The answer of few. -/
def fewR (c x : ByteArray) (r1 r2 : Bool) : Bool := decide (c.size ≤ 20) && decide (x.size ≤ 20) && r1 && r2

set_option maxRecDepth 100000 in
set_option maxHeartbeats 4000000 in
theorem la_few (n0 n1 n2 c x : ByteArray) (l : Value) (r1 r2 : Bool) (w : World) (hc : c.size ≤ 9223372036854775807) (hx : x.size ≤ 9223372036854775807)
    (h1 : ∀ N W, W.heap[N]? = some (.cells #[.string n0, .string n1, .string n2] 28 (0, 0)) → Calls Tryz.prog 46 #[.slice (some ⟨N, 0, none⟩) 1 1] W fun e w' => e = .returned (.bool r1) ∧ Below W.heap.size W w')
    (h2 : ∀ W, Below w.heap.size w W → Calls Tryz.prog 46 #[l] W fun e w' => e = .returned (.bool r2) ∧ Below W.heap.size W w') :
    Calls Tryz.prog 19 #[.agg #[.string n0, .string n1, .string n2, .string c], .string x, l] w fun e w' => e = .returned (.bool (fewR c x r1 r2)) ∧ Below w.heap.size w w' := by
  have H1 := Lib.hid h1
  have H2 := Lib.hid h2
  obtain ⟨r, hr⟩ : ∃ r, r = fewR c x r1 r2 := ⟨_, rfl⟩
  rw [← hr]
  unfold fewR at hr
  clear h1 h2
  by_cases hc2 : c.size ≤ 20
  · by_cases hx2 : x.size ≤ 20
    · rw [decide_eq_true hc2, decide_eq_true hx2] at hr
      cases r1
      · have HR : Hid (r = false) := Lib.hid (by rw [hr]; rfl)
        clear hr
        go_enter Tryz.func19, Tryz.ntmps19
        go_wp2_with fail
        generalize hW : (World.alloc w _).alloc _ = W
        obtain ⟨hB, hsz, R3, RS⟩ := A2 hW
        have R3 := Lib.hid R3
        have RS := Lib.hid RS
        clear hW hsz
        refine (H1.out _ _ RS.out).mono ?_
        rintro e w1 ⟨rfl, hb⟩
        replace hB := bstep hB hb
        clear hb
        go_wp2_with fail
        go_ret
        rw [HR.out]
        exact ⟨rfl, hB⟩
      · have HR : Hid (r = r2) := Lib.hid (by rw [hr]; rfl)
        clear hr
        go_enter Tryz.func19, Tryz.ntmps19
        go_wp2_with fail
        generalize hW : (World.alloc w _).alloc _ = W
        obtain ⟨hB, hsz, R3, RS⟩ := A2 hW
        have R3 := Lib.hid R3
        have RS := Lib.hid RS
        clear hW hsz
        refine (H1.out _ _ RS.out).mono ?_
        rintro e w1 ⟨rfl, hb⟩
        replace hB := bstep hB hb
        clear hb
        go_wp2_with fail
        refine (H2.out _ hB).mono ?_
        rintro e w2 ⟨rfl, hb⟩
        go_wp2_with fail
        go_ret
        rw [HR.out]
        exact ⟨rfl, bstep hB hb⟩
    · have HR : Hid (r = false) := Lib.hid (by rw [hr, decide_eq_false hx2]; simp)
      clear hr
      go_enter Tryz.func19, Tryz.ntmps19
      go_wp2_with fail
      go_ret
      rw [HR.out]
      exact ⟨rfl, (A1 rfl).1⟩
  · have HR : Hid (r = false) := Lib.hid (by rw [hr, decide_eq_false hc2]; simp)
    clear hr
    go_enter Tryz.func19, Tryz.ntmps19
    go_wp2_with fail
    go_ret
    rw [HR.out]
    exact ⟨rfl, (A1 rfl).1⟩

/-- Few at two vectors that a call has laid. -/
theorem la_Few1 {a0 a1 a2 : ByteArray} {t : TypeId} (ha : a0.size ≤ 9223372036854775807 ∧ a1.size ≤ 9223372036854775807 ∧ a2.size ≤ 9223372036854775807) (r : Bool) (h0 : Sh20 (a0, a1, a2) → r = true) (h1 : ¬ Sh20 (a0, a1, a2) → r = false) (N : Nat) (W : World)
    (h : W.heap[N]? = some (.cells #[.string a0, .string a1, .string a2] t (0, 0))) :
    Calls Tryz.prog 46 #[.slice (some ⟨N, 0, none⟩) 1 1] W fun e w' => e = .returned (.bool r) ∧ Below W.heap.size W w' := by
  refine la_Few N 0 1 1 _ r W (by decide) (vecsAt1 h) (fun _ _ => ha) (fun hv => h0 (hv 0 (by decide))) ?_
  rintro ⟨i, _, hv⟩
  exact h1 hv
theorem la_Few2 {a0 a1 a2 b0 b1 b2 : ByteArray} {t : TypeId} (ha : a0.size ≤ 9223372036854775807 ∧ a1.size ≤ 9223372036854775807 ∧ a2.size ≤ 9223372036854775807) (hb : b0.size ≤ 9223372036854775807 ∧ b1.size ≤ 9223372036854775807 ∧ b2.size ≤ 9223372036854775807)
    (r : Bool) (h0 : Sh20 (a0, a1, a2) → Sh20 (b0, b1, b2) → r = true) (h1 : ¬ (Sh20 (a0, a1, a2) ∧ Sh20 (b0, b1, b2)) → r = false) (N : Nat) (W : World)
    (h : W.heap[N]? = some (.cells #[.string a0, .string a1, .string a2, .string b0, .string b1, .string b2] t (0, 0))) :
    Calls Tryz.prog 46 #[.slice (some ⟨N, 0, none⟩) 2 2] W fun e w' => e = .returned (.bool r) ∧ Below W.heap.size W w' := by
  refine la_Few N 0 2 2 _ r W (by decide) (vecsAt2 h) ?_ (fun hv => h0 (hv 0 (by decide)) (hv 1 (by decide))) ?_
  · intro i hi
    match i, hi with
    | 0, _ => exact ha
    | 1, _ => exact hb
  · rintro ⟨i, hi, hv⟩
    refine h1 (fun ⟨k1, k2⟩ => hv ?_)
    match i, hi with
    | 0, _ => exact k1
    | 1, _ => exact k2
end Go.Proofs.YtgbabmkclojgeaaGreatDoor

/- The texts of the small numbers, and what the examples of the chapter give. -/
namespace Go.Proofs.YtgbabmkclojgeaaGreatDoor
open Go.RowKit Go.Shelf Go.Sort

theorem iS_p1 {k : Nat} {c : UInt8} (h : k < 10) (hc : c = UInt8.ofNat (48 + k)) : iS (k : Int) = ⟨#[c]⟩ := by
  rw [iS_nat]; unfold nS
  rw [Lib.decDigits, dif_pos h, hc]
theorem iS_n1 {k : Nat} {c : UInt8} (h0 : 0 < k) (h : k < 10) (hc : c = UInt8.ofNat (48 + k)) : iS (-(k : Int)) = ⟨#[45, c]⟩ := by
  unfold iS
  rw [if_pos (by omega), show (-(k : Int)).natAbs = k by omega, Lib.decDigits, dif_pos h, hc]
theorem rs_lit {x : Rat} {z : Int} (h1 : x.den = 1) (h2 : x.num = z) : rs x = iS z := by rw [rs_one h1, h2]

theorem k1 : rs 1 = ⟨#[49]⟩ := (rs_lit (z := ((1 : Nat) : Int)) rfl rfl).trans (iS_p1 (by decide) rfl)
theorem k2 : rs 2 = ⟨#[50]⟩ := (rs_lit (z := ((2 : Nat) : Int)) rfl rfl).trans (iS_p1 (by decide) rfl)
theorem k3 : rs 3 = ⟨#[51]⟩ := (rs_lit (z := ((3 : Nat) : Int)) rfl rfl).trans (iS_p1 (by decide) rfl)
theorem k4 : rs 4 = ⟨#[52]⟩ := (rs_lit (z := ((4 : Nat) : Int)) rfl rfl).trans (iS_p1 (by decide) rfl)
theorem k5 : rs 5 = ⟨#[53]⟩ := (rs_lit (z := ((5 : Nat) : Int)) rfl rfl).trans (iS_p1 (by decide) rfl)
theorem k6 : rs 6 = ⟨#[54]⟩ := (rs_lit (z := ((6 : Nat) : Int)) rfl rfl).trans (iS_p1 (by decide) rfl)
theorem k7 : rs 7 = ⟨#[55]⟩ := (rs_lit (z := ((7 : Nat) : Int)) rfl rfl).trans (iS_p1 (by decide) rfl)
theorem k9 : rs 9 = ⟨#[57]⟩ := (rs_lit (z := ((9 : Nat) : Int)) rfl rfl).trans (iS_p1 (by decide) rfl)
theorem km1 : rs (-1) = ⟨#[45, 49]⟩ := (rs_lit (z := -((1 : Nat) : Int)) rfl rfl).trans (iS_n1 (by decide) (by decide) rfl)
theorem km2 : rs (-2) = ⟨#[45, 50]⟩ := (rs_lit (z := -((2 : Nat) : Int)) rfl rfl).trans (iS_n1 (by decide) (by decide) rfl)
theorem km3 : rs (-3) = ⟨#[45, 51]⟩ := (rs_lit (z := -((3 : Nat) : Int)) rfl rfl).trans (iS_n1 (by decide) (by decide) rfl)
theorem k32 : rs 32 = ⟨#[51, 50]⟩ := by
  refine (rs_lit (z := ((32 : Nat) : Int)) rfl rfl).trans ?_
  rw [iS_nat]; unfold nS
  rw [Lib.decDigits, dif_neg (by decide), Lib.decDigits, dif_pos (by decide)]
  rfl

theorem sz_small {x : Rat} (h1 : x.num.natAbs < 100) (h2 : x.den = 1) : Sz 2 x := by
  refine ⟨(nl_le (by decide)).2 (by omega), ?_⟩
  rw [h2]; exact (nl_le (by decide)).2 (by decide)
theorem szV_small {a : V3} (h1 : a.x.num.natAbs < 100 ∧ a.x.den = 1) (h2 : a.y.num.natAbs < 100 ∧ a.y.den = 1) (h3 : a.z.num.natAbs < 100 ∧ a.z.den = 1) : SzV 2 a := ⟨sz_small h1.1 h1.2, sz_small h2.1 h2.2, sz_small h3.1 h3.2⟩

abbrev e1 : V3 := ⟨1, 0, 0⟩
abbrev e2 : V3 := ⟨0, 1, 0⟩
abbrev e3 : V3 := ⟨0, 0, 1⟩
abbrev v123 : V3 := ⟨1, 2, 3⟩
abbrev v456 : V3 := ⟨4, 5, 6⟩
theorem z_e1 : SzV 2 e1 := szV_small ⟨by decide, rfl⟩ ⟨by decide, rfl⟩ ⟨by decide, rfl⟩
theorem z_e2 : SzV 2 e2 := szV_small ⟨by decide, rfl⟩ ⟨by decide, rfl⟩ ⟨by decide, rfl⟩
theorem z_e3 : SzV 2 e3 := szV_small ⟨by decide, rfl⟩ ⟨by decide, rfl⟩ ⟨by decide, rfl⟩
theorem z_123 : SzV 2 v123 := szV_small ⟨by decide, rfl⟩ ⟨by decide, rfl⟩ ⟨by decide, rfl⟩
theorem z_456 : SzV 2 v456 := szV_small ⟨by decide, rfl⟩ ⟨by decide, rfl⟩ ⟨by decide, rfl⟩

theorem x_cross : crossV e1 e2 = e3 := by simp only [crossV, V3.mk.injEq]; exact ⟨by grind, by grind, by grind⟩
theorem x_add : addV v123 v456 = ⟨5, 7, 9⟩ := by simp only [addV, V3.mk.injEq]; exact ⟨by grind, by grind, by grind⟩
theorem x_sub : subV v123 v456 = ⟨-3, -3, -3⟩ := by simp only [subV, V3.mk.injEq]; exact ⟨by grind, by grind, by grind⟩
theorem x_scale : scaleV v123 2 = ⟨2, 4, 6⟩ := by simp only [scaleV, V3.mk.injEq]; exact ⟨by grind, by grind, by grind⟩
theorem x_dot : dotV v123 v456 = 32 := by simp only [dotV]; grind
theorem x_det : detV e1 e2 e3 = 1 := by simp only [detV, dotV, crossV]; grind
theorem x_nrm : nrm e1 e2 e3 = ⟨1, 1, 1⟩ := by simp only [nrm, crossV, subV, V3.mk.injEq]; exact ⟨by grind, by grind, by grind⟩
theorem x_nrmc : dotV ⟨1, 1, 1⟩ e1 = 1 := by simp only [dotV]; grind
theorem x_hs : hgt ⟨1, 1, 1⟩ 1 ⟨0, 0, 2⟩ = 1 := by simp only [hgt, dotV]; grind
theorem x_side : cmpQ (hgt ⟨1, 1, 1⟩ 1 ⟨0, 0, 2⟩) 0 = 1 := by rw [x_hs]; decide
theorem x_ha : hgt ⟨0, 0, 2⟩ 2 ⟨0, 0, 0⟩ = -2 := by simp only [hgt, dotV]; grind
theorem x_hb : hgt ⟨0, 0, 2⟩ 2 ⟨3, 0, 3⟩ = 4 := by simp only [hgt, dotV]; grind
theorem x_crs : crs ⟨0, 0, 2⟩ 2 ⟨0, 0, 0⟩ ⟨3, 0, 3⟩ = ⟨1, 0, 1⟩ := by simp only [crs, x_ha, x_hb, addV, scaleV, subV, V3.mk.injEq]; exact ⟨by grind, by grind, by grind⟩
def S2 (i : Nat) : V3 := if i = 0 then v123 else v456
theorem x_rng : rng S2 ⟨1, 0, -1⟩ 1 = (-2, -2) := by
  have h0 : dotV (S2 0) ⟨1, 0, -1⟩ = -2 := by show dotV v123 _ = _; simp only [dotV]; grind
  have h1 : dotV (S2 1) ⟨1, 0, -1⟩ = -2 := by show dotV v456 _ = _; simp only [dotV]; grind
  simp only [rng, h0, h1, Nat.zero_add, ite_self]
end Go.Proofs.YtgbabmkclojgeaaGreatDoor

/- Equality of planes and intervals. -/
namespace Go.Proofs.YtgbabmkclojgeaaGreatDoor
open Go.RowKit Go.Shelf Go.Sort

attribute [local go_sem] Oper.semAt_some

theorem ivl_guard : Tryz.prog.eqGuardType Tryz.prog.depth 73 = false := by kernel_rfl
theorem ivl_held : Tryz.prog.stoodInHeld 73 = false := by kernel_rfl
theorem ivl_eq (w : World) (a b a' b' : ByteArray) : (Op.equalIn 10000 73 (.agg #[.string a, .string b]) (.agg #[.string a', .string b'])).run Tryz.prog w = .ok ((a.toList == a'.toList) && (b.toList == b'.toList)) w := by
  have hf : Tryz.prog.underlying 73 = some (.struct (Tryz.prog.fieldsOf 73)) := by
    unfold Program.fieldsOf
    rw [Tryz.underlying73]
  refine (run_equalIn_agg w 9999 _ _ _ hf ivl_held).trans ?_
  unfold Program.fieldsOf
  rw [Tryz.underlying73]
  simp [Op.eqFields, go_sem]
  by_cases h1 : a.toList = a'.toList
  · by_cases h2 : b.toList = b'.toList
    · simp [h1, h2]
    · simp [h1, h2]
  · simp [h1]
theorem pla_guard : Tryz.prog.eqGuardType Tryz.prog.depth 48 = false := by kernel_rfl
theorem pla_held : Tryz.prog.stoodInHeld 48 = false := by kernel_rfl
theorem pla_eq (w : World) (a b c d a' b' c' d' : ByteArray) : (Op.equalIn 10000 48 (.agg #[.string a, .string b, .string c, .string d]) (.agg #[.string a', .string b', .string c', .string d'])).run Tryz.prog w = .ok (((a.toList == a'.toList) && ((b.toList == b'.toList) && (c.toList == c'.toList))) && (d.toList == d'.toList)) w := by
  have hf : Tryz.prog.underlying 48 = some (.struct (Tryz.prog.fieldsOf 48)) := by
    unfold Program.fieldsOf
    rw [Tryz.underlying48]
  refine (run_equalIn_agg w 9999 _ _ _ hf pla_held).trans ?_
  unfold Program.fieldsOf
  rw [Tryz.underlying48]
  simp [Op.eqFields, go_sem]
  by_cases h1 : a.toList = a'.toList
  · by_cases h2 : b.toList = b'.toList
    · by_cases h3 : c.toList = c'.toList
      · by_cases h4 : d.toList = d'.toList
        · simp [h1, h2, h3, h4]
        · simp [h1, h2, h3, h4]
      · simp [h1, h2, h3]
    · simp [h1, h2]
  · simp [h1]
end Go.Proofs.YtgbabmkclojgeaaGreatDoor

/- Walk of the laws' helper awake: the examples of the chapter hold. -/
namespace Go.Proofs.YtgbabmkclojgeaaGreatDoor
open Go.RowKit Go.Shelf Go.Sort

attribute [local go_sem] Oper.semAt_some vec_guard vec_eq ivl_guard ivl_eq pla_guard pla_eq

theorem row6 {W : World} {g : Nat} {a b c d e f : Value} {t : TypeId} (h : W.heap[g]? = some (.cells #[a, b, c, d, e, f] t (0, 0))) : W.cell? ⟨g, 0, none⟩ = some a ∧ W.cell? ⟨g, 1, none⟩ = some b ∧ W.cell? ⟨g, 2, none⟩ = some c ∧ W.cell? ⟨g, 3, none⟩ = some d ∧ W.cell? ⟨g, 4, none⟩ = some e ∧ W.cell? ⟨g, 5, none⟩ = some f :=
  ⟨cell_of_row W _ 0 _ _ _ h, cell_of_row W _ 1 _ _ _ h, cell_of_row W _ 2 _ _ _ h, cell_of_row W _ 3 _ _ _ h, cell_of_row W _ 4 _ _ _ h, cell_of_row W _ 5 _ _ _ h⟩
theorem awake_rng (N : Nat) (t : TypeId) (W : World) (hE : Env W) (h : W.heap[N]? = some (.cells #[.string ⟨#[49]⟩, .string ⟨#[50]⟩, .string ⟨#[51]⟩, .string ⟨#[52]⟩, .string ⟨#[53]⟩, .string ⟨#[54]⟩] t (0, 0))) :
    Calls Tryz.prog 47 #[.slice (some ⟨N, 0, none⟩) 2 2, .agg #[.string ⟨#[49]⟩, .string ⟨#[48]⟩, .string ⟨#[45, 49]⟩]] W fun e w' => e = .returned (.tuple #[.agg #[.string ⟨#[45, 50]⟩, .string ⟨#[45, 50]⟩], .int .i64 0]) ∧ Below W.heap.size W w' := by
  obtain ⟨h0, h1, h2, h3, h4, h5⟩ := row6 h
  have hr := ve_Range N 0 2 2 S2 ⟨1, 0, -1⟩ W hE (by decide) (by decide) (by decide) (by decide) (by
      intro i hi
      match i, hi with
      | 0, _ => unfold txV S2; simp only [if_true, k1, k2, k3]; exact ⟨h0, h1, h2⟩
      | 1, _ => unfold txV S2; simp only [Nat.one_ne_zero, if_false, k4, k5, k6]; exact ⟨h3, h4, h5⟩)
    (by
      intro i hi
      match i, hi with
      | 0, _ => exact z_123.mono (by decide)
      | 1, _ => exact z_456.mono (by decide)) ((szV_small (a := ⟨1, 0, -1⟩) ⟨by decide, rfl⟩ ⟨by decide, rfl⟩ ⟨by decide, rfl⟩).mono (by decide))
  rw [show 2 - 1 = 1 from rfl, x_rng] at hr
  simp only [vV, k1, rs_0, km1, km2] at hr
  exact hr

set_option maxRecDepth 100000 in
set_option maxHeartbeats 8000000 in
theorem la_awake (w : World) (hE : Env w) :
    Calls Tryz.prog 18 #[] w fun e w' => e = .returned (.bool true) ∧ Below w.heap.size w w' := by
  have z0 : SzV 2 ⟨0, 0, 0⟩ := szV_small ⟨by decide, rfl⟩ ⟨by decide, rfl⟩ ⟨by decide, rfl⟩
  have z002 : SzV 2 ⟨0, 0, 2⟩ := szV_small ⟨by decide, rfl⟩ ⟨by decide, rfl⟩ ⟨by decide, rfl⟩
  have z303 : SzV 2 ⟨3, 0, 3⟩ := szV_small ⟨by decide, rfl⟩ ⟨by decide, rfl⟩ ⟨by decide, rfl⟩
  have z111 : SzV 2 ⟨1, 1, 1⟩ := szV_small ⟨by decide, rfl⟩ ⟨by decide, rfl⟩ ⟨by decide, rfl⟩
  have s1 : Sz 2 (1 : Rat) := sz_small (by decide) rfl
  have s2 : Sz 2 (2 : Rat) := sz_small (by decide) rfl
  have q0 : zero3 ⟨0, 0, 2⟩ = false := by decide
  have q1 : zero3 ⟨1, 1, 1⟩ = false := by decide
  have C1 := fun w hE => ve_Cross e1 e2 w hE (z_e1.mono (by decide)) (z_e2.mono (by decide))
  rw [x_cross] at C1
  have C2 := fun w hE => ve_Crossing ⟨0, 0, 2⟩ 2 ⟨0, 0, 0⟩ ⟨3, 0, 3⟩ w hE (z002.mono (by decide)) (s2.mono (by decide)) (z0.mono (by decide)) (z303.mono (by decide)) q0 (by rw [x_ha, x_hb]; decide) (by rw [x_ha, x_hb]; grind)
  rw [x_crs] at C2
  have C3 := fun w hE => ve_Through e1 e2 e3 w hE (z_e1.mono (by decide)) (z_e2.mono (by decide)) (z_e3.mono (by decide)) (by rw [x_nrm]; exact q1)
  rw [x_nrm, x_nrmc] at C3
  have C4 := fun w hE => ve_Side ⟨1, 1, 1⟩ 1 ⟨0, 0, 2⟩ w hE (z111.mono (by decide)) (s1.mono (by decide)) (z002.mono (by decide)) q1
  rw [x_side] at C4
  have C6 := fun w hE => ve_Dot v123 v456 w hE (z_123.mono (by decide)) (z_456.mono (by decide))
  rw [x_dot] at C6
  have C7 := fun w hE => ve_Det e1 e2 e3 w hE (z_e1.mono (by decide)) (z_e2.mono (by decide)) (z_e3.mono (by decide))
  rw [x_det] at C7
  have C8 := fun w hE => ve_Add v123 v456 w hE (z_123.mono (by decide)) (z_456.mono (by decide))
  rw [x_add] at C8
  have C9 := fun w hE => ve_Sub v123 v456 w hE (z_123.mono (by decide)) (z_456.mono (by decide))
  rw [x_sub] at C9
  have CA := fun w hE => ve_Scale v123 2 w hE (z_123.mono (by decide)) (s2.mono (by decide))
  rw [x_scale] at CA
  have CV := fun w hE => ve_Valid (rs 0) (rs 0) (rs 1) w hE (sh_of z_e3 (by decide)).1 (sh_of z_e3 (by decide)).1 (sh_of z_e3 (by decide)).2.2
  rw [rvB_rs, rvB_rs] at CV
  simp only [vV, pV, rs_0, k1, k2, k3, k4, k5, k6, k7, k9, km3, k32, Bool.and_self] at C1 C2 C3 C4 C6 C7 C8 C9 CA CV
  have C1 := Lib.hid C1
  have C2 := Lib.hid C2
  have C3 := Lib.hid C3
  have C4 := Lib.hid C4
  have C6 := Lib.hid C6
  have C7 := Lib.hid C7
  have C8 := Lib.hid C8
  have C9 := Lib.hid C9
  have CA := Lib.hid CA
  have CV := Lib.hid CV
  have HE := Lib.hid hE
  have hB : Below w.heap.size w w := Below.refl _ _
  clear z0 z002 z303 z111 s1 s2 q0 q1 hE
  go_enter Tryz.func18, Tryz.ntmps18
  go_wp2_with fail
  refine (la_vec _ _ _ _).mono ?_
  rintro e w1 ⟨rfl, hb⟩
  replace hB := bstep hB hb
  clear hb
  go_wp2_with fail
  refine (la_vec _ _ _ _).mono ?_
  rintro e w2 ⟨rfl, hb⟩
  replace hB := bstep hB hb
  clear hb
  go_wp2_with fail
  refine (C1.out _ (HE.out.below hB)).mono ?_
  rintro e w3 ⟨rfl, hb⟩
  replace hB := bstep hB hb
  clear hb
  go_wp2_with fail
  generalize hW : World.alloc _ _ = V1
  obtain ⟨hb, hsz, Ra⟩ := A1 hW
  replace hB := bstep hB hb
  clear hb
  have Ra := Lib.hid Ra
  clear hW hsz
  refine (la_vec _ _ _ _).mono ?_
  rintro e w4 ⟨rfl, hb⟩
  replace hB := bstep hB hb
  have Ra := Lib.hid (keep hb Ra.out)
  clear hb
  go_wp2_with fail
  refine (la_vec _ _ _ _).mono ?_
  rintro e w5 ⟨rfl, hb⟩
  replace hB := bstep hB hb
  have Ra := Lib.hid (keep hb Ra.out)
  clear hb
  go_wp2_with fail
  refine (la_vec _ _ _ _).mono ?_
  rintro e w6 ⟨rfl, hb⟩
  replace hB := bstep hB hb
  have Ra := Lib.hid (keep hb Ra.out)
  clear hb
  go_wp2_with fail
  refine (C2.out _ (HE.out.below hB)).mono ?_
  rintro e w7 ⟨rfl, hb⟩
  replace hB := bstep hB hb
  have Ra := Lib.hid (keep hb Ra.out)
  clear hb
  go_wp2_with fail
  generalize hW : World.alloc _ _ = V2
  obtain ⟨hb, hsz, Rb⟩ := A1 hW
  replace hB := bstep hB hb
  have Ra := Lib.hid (keep hb Ra.out)
  clear hb
  have Rb := Lib.hid Rb
  clear hW hsz
  refine (la_vec _ _ _ _).mono ?_
  rintro e w8 ⟨rfl, hb⟩
  replace hB := bstep hB hb
  have Ra := Lib.hid (keep hb Ra.out)
  have Rb := Lib.hid (keep hb Rb.out)
  clear hb
  go_wp2_with fail
  refine (la_vec _ _ _ _).mono ?_
  rintro e w9 ⟨rfl, hb⟩
  replace hB := bstep hB hb
  have Ra := Lib.hid (keep hb Ra.out)
  have Rb := Lib.hid (keep hb Rb.out)
  clear hb
  go_wp2_with fail
  refine (la_vec _ _ _ _).mono ?_
  rintro e w10 ⟨rfl, hb⟩
  replace hB := bstep hB hb
  have Ra := Lib.hid (keep hb Ra.out)
  have Rb := Lib.hid (keep hb Rb.out)
  clear hb
  go_wp2_with fail
  refine (C3.out _ (HE.out.below hB)).mono ?_
  rintro e w11 ⟨rfl, hb⟩
  replace hB := bstep hB hb
  have Ra := Lib.hid (keep hb Ra.out)
  have Rb := Lib.hid (keep hb Rb.out)
  clear hb
  go_wp2_with fail
  generalize hW : World.alloc _ _ = V3
  obtain ⟨hb, hsz, Rp⟩ := A1 hW
  replace hB := bstep hB hb
  have Ra := Lib.hid (keep hb Ra.out)
  have Rb := Lib.hid (keep hb Rb.out)
  clear hb
  have Rp := Lib.hid Rp
  clear hW hsz
  have h0 : ∀ d os, (grow (redrawn V3 d) os).cell? ⟨w11.heap.size, 0, none⟩ = some (.string ⟨#[49]⟩) := fun d os => cell_regrown (row4 Rp.out).1 d os
  have h1 : ∀ d os, (grow (redrawn V3 d) os).cell? ⟨w11.heap.size, 1, none⟩ = some (.string ⟨#[49]⟩) := fun d os => cell_regrown (row4 Rp.out).2.1 d os
  have h2 : ∀ d os, (grow (redrawn V3 d) os).cell? ⟨w11.heap.size, 2, none⟩ = some (.string ⟨#[49]⟩) := fun d os => cell_regrown (row4 Rp.out).2.2.1 d os
  have h3 : ∀ d os, (grow (redrawn V3 d) os).cell? ⟨w11.heap.size, 3, none⟩ = some (.string ⟨#[49]⟩) := fun d os => cell_regrown (row4 Rp.out).2.2.2.1 d os
  have hE := HE.out.below hB
  have T1 := Lib.hid (fun d os => Calls.regrown_of (la_vec ⟨#[48]⟩ ⟨#[48]⟩ ⟨#[50]⟩ (grow (redrawn V3 d) os)))
  have T2 := Lib.hid (fun d os => Calls.regrown_of (C4.out (grow (redrawn V3 d) os) (hE.below (below_regrown V3 d os))))
  clear hE C4
  refine wp_region_quiet_below (by kernel_rfl) (by kernel_rfl) ?_
  repeat (first | quiet_step (with_reducible exact T1.out _ _) | quiet_step (with_reducible exact T2.out _ _))
  refine wpQuiet_nil ?_
  intro _ hw'
  obtain ⟨⟨dq, osq⟩, hw''⟩ := hw'
  subst hw''
  have hb := below_regrown V3 dq osq
  clear h0 h1 h2 h3 T1 T2
  generalize grow (redrawn V3 dq) osq = Y at *
  replace hB := bstep hB hb
  have Ra := Lib.hid (keep hb Ra.out)
  have Rb := Lib.hid (keep hb Rb.out)
  have Rp := Lib.hid (keep hb Rp.out)
  clear hb
  go_wp2_with fail
  refine (la_vec _ _ _ _).mono ?_
  rintro e w12 ⟨rfl, hb⟩
  replace hB := bstep hB hb
  have Ra := Lib.hid (keep hb Ra.out)
  have Rb := Lib.hid (keep hb Rb.out)
  have Rp := Lib.hid (keep hb Rp.out)
  clear hb
  go_wp2_with fail
  refine (la_vec _ _ _ _).mono ?_
  rintro e w13 ⟨rfl, hb⟩
  replace hB := bstep hB hb
  have Ra := Lib.hid (keep hb Ra.out)
  have Rb := Lib.hid (keep hb Rb.out)
  have Rp := Lib.hid (keep hb Rp.out)
  clear hb
  go_wp2_with fail
  generalize hW : World.alloc _ _ = V4
  obtain ⟨hb, hsz, RS⟩ := A1 hW
  replace hB := bstep hB hb
  have Ra := Lib.hid (keep hb Ra.out)
  have Rb := Lib.hid (keep hb Rb.out)
  have Rp := Lib.hid (keep hb Rp.out)
  clear hb
  have RS := Lib.hid RS
  clear hW hsz
  refine (la_vec _ _ _ _).mono ?_
  rintro e w14 ⟨rfl, hb⟩
  replace hB := bstep hB hb
  have Ra := Lib.hid (keep hb Ra.out)
  have Rb := Lib.hid (keep hb Rb.out)
  have Rp := Lib.hid (keep hb Rp.out)
  have RS := Lib.hid (keep hb RS.out)
  clear hb
  go_wp2_with fail
  refine (awake_rng _ _ _ (HE.out.below hB) RS.out).mono ?_
  rintro e w15 ⟨rfl, hb⟩
  replace hB := bstep hB hb
  have Ra := Lib.hid (keep hb Ra.out)
  have Rb := Lib.hid (keep hb Rb.out)
  have Rp := Lib.hid (keep hb Rp.out)
  have RS := Lib.hid (keep hb RS.out)
  clear hb
  clear RS
  go_wp2_with fail
  generalize hW : World.alloc _ _ = V5
  obtain ⟨hb, hsz, Rr⟩ := A1 hW
  replace hB := bstep hB hb
  have Ra := Lib.hid (keep hb Ra.out)
  have Rb := Lib.hid (keep hb Rb.out)
  have Rp := Lib.hid (keep hb Rp.out)
  clear hb
  have Rr := Lib.hid Rr
  clear hW hsz
  refine (la_vec _ _ _ _).mono ?_
  rintro e w16 ⟨rfl, hb⟩
  replace hB := bstep hB hb
  have Ra := Lib.hid (keep hb Ra.out)
  have Rb := Lib.hid (keep hb Rb.out)
  have Rp := Lib.hid (keep hb Rp.out)
  have Rr := Lib.hid (keep hb Rr.out)
  clear hb
  go_wp2_with fail
  refine (la_vec _ _ _ _).mono ?_
  rintro e w17 ⟨rfl, hb⟩
  replace hB := bstep hB hb
  have Ra := Lib.hid (keep hb Ra.out)
  have Rb := Lib.hid (keep hb Rb.out)
  have Rp := Lib.hid (keep hb Rp.out)
  have Rr := Lib.hid (keep hb Rr.out)
  clear hb
  go_wp2_with fail
  refine (C6.out _ (HE.out.below hB)).mono ?_
  rintro e w18 ⟨rfl, hb⟩
  replace hB := bstep hB hb
  have Ra := Lib.hid (keep hb Ra.out)
  have Rb := Lib.hid (keep hb Rb.out)
  have Rp := Lib.hid (keep hb Rp.out)
  have Rr := Lib.hid (keep hb Rr.out)
  clear hb
  go_wp2_with fail
  refine (la_vec _ _ _ _).mono ?_
  rintro e w19 ⟨rfl, hb⟩
  replace hB := bstep hB hb
  have Ra := Lib.hid (keep hb Ra.out)
  have Rb := Lib.hid (keep hb Rb.out)
  have Rp := Lib.hid (keep hb Rp.out)
  have Rr := Lib.hid (keep hb Rr.out)
  clear hb
  go_wp2_with fail
  refine (la_vec _ _ _ _).mono ?_
  rintro e w20 ⟨rfl, hb⟩
  replace hB := bstep hB hb
  have Ra := Lib.hid (keep hb Ra.out)
  have Rb := Lib.hid (keep hb Rb.out)
  have Rp := Lib.hid (keep hb Rp.out)
  have Rr := Lib.hid (keep hb Rr.out)
  clear hb
  go_wp2_with fail
  refine (la_vec _ _ _ _).mono ?_
  rintro e w21 ⟨rfl, hb⟩
  replace hB := bstep hB hb
  have Ra := Lib.hid (keep hb Ra.out)
  have Rb := Lib.hid (keep hb Rb.out)
  have Rp := Lib.hid (keep hb Rp.out)
  have Rr := Lib.hid (keep hb Rr.out)
  clear hb
  go_wp2_with fail
  refine (C7.out _ (HE.out.below hB)).mono ?_
  rintro e w22 ⟨rfl, hb⟩
  replace hB := bstep hB hb
  have Ra := Lib.hid (keep hb Ra.out)
  have Rb := Lib.hid (keep hb Rb.out)
  have Rp := Lib.hid (keep hb Rp.out)
  have Rr := Lib.hid (keep hb Rr.out)
  clear hb
  go_wp2_with fail
  refine (la_vec _ _ _ _).mono ?_
  rintro e w23 ⟨rfl, hb⟩
  replace hB := bstep hB hb
  have Ra := Lib.hid (keep hb Ra.out)
  have Rb := Lib.hid (keep hb Rb.out)
  have Rp := Lib.hid (keep hb Rp.out)
  have Rr := Lib.hid (keep hb Rr.out)
  clear hb
  go_wp2_with fail
  refine (la_vec _ _ _ _).mono ?_
  rintro e w24 ⟨rfl, hb⟩
  replace hB := bstep hB hb
  have Ra := Lib.hid (keep hb Ra.out)
  have Rb := Lib.hid (keep hb Rb.out)
  have Rp := Lib.hid (keep hb Rp.out)
  have Rr := Lib.hid (keep hb Rr.out)
  clear hb
  go_wp2_with fail
  refine (C8.out _ (HE.out.below hB)).mono ?_
  rintro e w25 ⟨rfl, hb⟩
  replace hB := bstep hB hb
  have Ra := Lib.hid (keep hb Ra.out)
  have Rb := Lib.hid (keep hb Rb.out)
  have Rp := Lib.hid (keep hb Rp.out)
  have Rr := Lib.hid (keep hb Rr.out)
  clear hb
  go_wp2_with fail
  generalize hW : World.alloc _ _ = V6
  obtain ⟨hb, hsz, Ru⟩ := A1 hW
  replace hB := bstep hB hb
  have Ra := Lib.hid (keep hb Ra.out)
  have Rb := Lib.hid (keep hb Rb.out)
  have Rp := Lib.hid (keep hb Rp.out)
  have Rr := Lib.hid (keep hb Rr.out)
  clear hb
  have Ru := Lib.hid Ru
  clear hW hsz
  refine (la_vec _ _ _ _).mono ?_
  rintro e w26 ⟨rfl, hb⟩
  replace hB := bstep hB hb
  have Ra := Lib.hid (keep hb Ra.out)
  have Rb := Lib.hid (keep hb Rb.out)
  have Rp := Lib.hid (keep hb Rp.out)
  have Rr := Lib.hid (keep hb Rr.out)
  have Ru := Lib.hid (keep hb Ru.out)
  clear hb
  go_wp2_with fail
  refine (la_vec _ _ _ _).mono ?_
  rintro e w27 ⟨rfl, hb⟩
  replace hB := bstep hB hb
  have Ra := Lib.hid (keep hb Ra.out)
  have Rb := Lib.hid (keep hb Rb.out)
  have Rp := Lib.hid (keep hb Rp.out)
  have Rr := Lib.hid (keep hb Rr.out)
  have Ru := Lib.hid (keep hb Ru.out)
  clear hb
  go_wp2_with fail
  refine (C9.out _ (HE.out.below hB)).mono ?_
  rintro e w28 ⟨rfl, hb⟩
  replace hB := bstep hB hb
  have Ra := Lib.hid (keep hb Ra.out)
  have Rb := Lib.hid (keep hb Rb.out)
  have Rp := Lib.hid (keep hb Rp.out)
  have Rr := Lib.hid (keep hb Rr.out)
  have Ru := Lib.hid (keep hb Ru.out)
  clear hb
  go_wp2_with fail
  generalize hW : World.alloc _ _ = V7
  obtain ⟨hb, hsz, Rv⟩ := A1 hW
  replace hB := bstep hB hb
  have Ra := Lib.hid (keep hb Ra.out)
  have Rb := Lib.hid (keep hb Rb.out)
  have Rp := Lib.hid (keep hb Rp.out)
  have Rr := Lib.hid (keep hb Rr.out)
  have Ru := Lib.hid (keep hb Ru.out)
  clear hb
  have Rv := Lib.hid Rv
  clear hW hsz
  refine (la_vec _ _ _ _).mono ?_
  rintro e w29 ⟨rfl, hb⟩
  replace hB := bstep hB hb
  have Ra := Lib.hid (keep hb Ra.out)
  have Rb := Lib.hid (keep hb Rb.out)
  have Rp := Lib.hid (keep hb Rp.out)
  have Rr := Lib.hid (keep hb Rr.out)
  have Ru := Lib.hid (keep hb Ru.out)
  have Rv := Lib.hid (keep hb Rv.out)
  clear hb
  go_wp2_with fail
  refine (CA.out _ (HE.out.below hB)).mono ?_
  rintro e w30 ⟨rfl, hb⟩
  replace hB := bstep hB hb
  have Ra := Lib.hid (keep hb Ra.out)
  have Rb := Lib.hid (keep hb Rb.out)
  have Rp := Lib.hid (keep hb Rp.out)
  have Rr := Lib.hid (keep hb Rr.out)
  have Ru := Lib.hid (keep hb Ru.out)
  have Rv := Lib.hid (keep hb Rv.out)
  clear hb
  go_wp2_with fail
  generalize hW : World.alloc _ _ = V8
  obtain ⟨hb, hsz, Rw⟩ := A1 hW
  replace hB := bstep hB hb
  have Ra := Lib.hid (keep hb Ra.out)
  have Rb := Lib.hid (keep hb Rb.out)
  have Rp := Lib.hid (keep hb Rp.out)
  have Rr := Lib.hid (keep hb Rr.out)
  have Ru := Lib.hid (keep hb Ru.out)
  have Rv := Lib.hid (keep hb Rv.out)
  clear hb
  have Rw := Lib.hid Rw
  clear hW hsz
  have hRa0 : ∀ d os, (grow (redrawn V8 d) os).cell? ⟨w3.heap.size, 0, none⟩ = some (.string ⟨#[48]⟩) := fun d os => cell_regrown (row3 Ra.out).1 d os
  have hRa1 : ∀ d os, (grow (redrawn V8 d) os).cell? ⟨w3.heap.size, 1, none⟩ = some (.string ⟨#[48]⟩) := fun d os => cell_regrown (row3 Ra.out).2.1 d os
  have hRa2 : ∀ d os, (grow (redrawn V8 d) os).cell? ⟨w3.heap.size, 2, none⟩ = some (.string ⟨#[49]⟩) := fun d os => cell_regrown (row3 Ra.out).2.2.1 d os
  have hRb0 : ∀ d os, (grow (redrawn V8 d) os).cell? ⟨w7.heap.size, 0, none⟩ = some (.string ⟨#[49]⟩) := fun d os => cell_regrown (row3 Rb.out).1 d os
  have hRb1 : ∀ d os, (grow (redrawn V8 d) os).cell? ⟨w7.heap.size, 1, none⟩ = some (.string ⟨#[48]⟩) := fun d os => cell_regrown (row3 Rb.out).2.1 d os
  have hRb2 : ∀ d os, (grow (redrawn V8 d) os).cell? ⟨w7.heap.size, 2, none⟩ = some (.string ⟨#[49]⟩) := fun d os => cell_regrown (row3 Rb.out).2.2.1 d os
  have hRp0 : ∀ d os, (grow (redrawn V8 d) os).cell? ⟨w11.heap.size, 0, none⟩ = some (.string ⟨#[49]⟩) := fun d os => cell_regrown (row4 Rp.out).1 d os
  have hRp1 : ∀ d os, (grow (redrawn V8 d) os).cell? ⟨w11.heap.size, 1, none⟩ = some (.string ⟨#[49]⟩) := fun d os => cell_regrown (row4 Rp.out).2.1 d os
  have hRp2 : ∀ d os, (grow (redrawn V8 d) os).cell? ⟨w11.heap.size, 2, none⟩ = some (.string ⟨#[49]⟩) := fun d os => cell_regrown (row4 Rp.out).2.2.1 d os
  have hRp3 : ∀ d os, (grow (redrawn V8 d) os).cell? ⟨w11.heap.size, 3, none⟩ = some (.string ⟨#[49]⟩) := fun d os => cell_regrown (row4 Rp.out).2.2.2.1 d os
  have hRr0 : ∀ d os, (grow (redrawn V8 d) os).cell? ⟨w15.heap.size, 0, none⟩ = some (.string ⟨#[45, 50]⟩) := fun d os => cell_regrown (row2 Rr.out).1 d os
  have hRr1 : ∀ d os, (grow (redrawn V8 d) os).cell? ⟨w15.heap.size, 1, none⟩ = some (.string ⟨#[45, 50]⟩) := fun d os => cell_regrown (row2 Rr.out).2.1 d os
  have hRu0 : ∀ d os, (grow (redrawn V8 d) os).cell? ⟨w25.heap.size, 0, none⟩ = some (.string ⟨#[53]⟩) := fun d os => cell_regrown (row3 Ru.out).1 d os
  have hRu1 : ∀ d os, (grow (redrawn V8 d) os).cell? ⟨w25.heap.size, 1, none⟩ = some (.string ⟨#[55]⟩) := fun d os => cell_regrown (row3 Ru.out).2.1 d os
  have hRu2 : ∀ d os, (grow (redrawn V8 d) os).cell? ⟨w25.heap.size, 2, none⟩ = some (.string ⟨#[57]⟩) := fun d os => cell_regrown (row3 Ru.out).2.2.1 d os
  have hRv0 : ∀ d os, (grow (redrawn V8 d) os).cell? ⟨w28.heap.size, 0, none⟩ = some (.string ⟨#[45, 51]⟩) := fun d os => cell_regrown (row3 Rv.out).1 d os
  have hRv1 : ∀ d os, (grow (redrawn V8 d) os).cell? ⟨w28.heap.size, 1, none⟩ = some (.string ⟨#[45, 51]⟩) := fun d os => cell_regrown (row3 Rv.out).2.1 d os
  have hRv2 : ∀ d os, (grow (redrawn V8 d) os).cell? ⟨w28.heap.size, 2, none⟩ = some (.string ⟨#[45, 51]⟩) := fun d os => cell_regrown (row3 Rv.out).2.2.1 d os
  have hRw0 : ∀ d os, (grow (redrawn V8 d) os).cell? ⟨w30.heap.size, 0, none⟩ = some (.string ⟨#[50]⟩) := fun d os => cell_regrown (row3 Rw.out).1 d os
  have hRw1 : ∀ d os, (grow (redrawn V8 d) os).cell? ⟨w30.heap.size, 1, none⟩ = some (.string ⟨#[52]⟩) := fun d os => cell_regrown (row3 Rw.out).2.1 d os
  have hRw2 : ∀ d os, (grow (redrawn V8 d) os).cell? ⟨w30.heap.size, 2, none⟩ = some (.string ⟨#[54]⟩) := fun d os => cell_regrown (row3 Rw.out).2.2.1 d os
  have hE := HE.out.below hB
  have T1 := Lib.hid (fun a b c d os => Calls.regrown_of (la_vec a b c (grow (redrawn V8 d) os)))
  have T2 := Lib.hid (fun d os => Calls.regrown_of (CV.out (grow (redrawn V8 d) os) (hE.below (below_regrown V8 d os))))
  clear hE CV
  refine wp_region_quiet_below (by kernel_rfl) (by kernel_rfl) ?_
  repeat (first | quiet_step (with_reducible exact T1.out _ _ _ _ _) | quiet_step (with_reducible exact T2.out _ _))
  refine wpQuiet_nil ?_
  intro _ hw'
  obtain ⟨⟨dq, osq⟩, hw''⟩ := hw'
  subst hw''
  have hb := below_regrown V8 dq osq
  clear hRa0 hRa1 hRa2 hRb0 hRb1 hRb2 hRp0 hRp1 hRp2 hRp3 hRr0 hRr1 hRu0 hRu1 hRu2 hRv0 hRv1 hRv2 hRw0 hRw1 hRw2 T1 T2
  generalize grow (redrawn V8 dq) osq = Z at *
  go_wp2_with fail
  go_ret
  exact ⟨rfl, bstep hB hb⟩
end Go.Proofs.YtgbabmkclojgeaaGreatDoor

/- Short texts: what 'few' answers, numbers out of texts (general; no law is named). -/
namespace Go.Proofs.YtgbabmkclojgeaaGreatDoor
open Go.RowKit Go.Shelf Go.Sort

theorem mkE : (⟨#[]⟩ : ByteArray).size ≤ 9223372036854775807 := by decide
theorem rs_nl (x : Rat) : nl x.num.natAbs ≤ (rs x).size ∧ nl x.den ≤ (rs x).size + 1 := by
  have s1 := iS_nl x.num
  have s2 := nS_size x.den
  by_cases h : x.den = 1
  · rw [rs_one h]; refine ⟨s1, ?_⟩
    rw [h, show nl 1 = 1 by unfold nl; rw [Lib.decDigits]; rfl]; omega
  · rw [rs_frac h, ByteArray.size_append, ByteArray.size_append]; omega
/-- A text of at most 20 bytes that is a number. -/
theorem rat_of_text {s : ByteArray} (hs : s.size ≤ 20) (h : rvB s = true) : ∃ x, s = rs x ∧ Sz 21 x := by
  obtain ⟨x, hx⟩ := (rvB_iff s).1 h
  have := rs_nl x
  rw [← hx] at this
  exact ⟨x, hx, by omega, by omega⟩
theorem vec_of_text {a0 a1 a2 : ByteArray} (hs : Sh20 (a0, a1, a2)) (h : (rvB a0 && rvB a1 && rvB a2) = true) : ∃ a : V3, a0 = rs a.x ∧ a1 = rs a.y ∧ a2 = rs a.z ∧ SzV 21 a := by
  rw [Bool.and_eq_true, Bool.and_eq_true] at h
  obtain ⟨x, hx, zx⟩ := rat_of_text hs.1 h.1.1
  obtain ⟨y, hy, zy⟩ := rat_of_text hs.2.1 h.1.2
  obtain ⟨z, hz, zz⟩ := rat_of_text hs.2.2 h.2
  exact ⟨⟨x, y, z⟩, hx, hy, hz, zx, zy, zz⟩
/-- The sizes of three texts that a machine can hold. -/
def Mx (s : ByteArray × ByteArray × ByteArray) : Prop := s.1.size ≤ 9223372036854775807 ∧ s.2.1.size ≤ 9223372036854775807 ∧ s.2.2.size ≤ 9223372036854775807
theorem sh_mx {s : ByteArray × ByteArray × ByteArray} (h : Sh20 s) : Mx s := ⟨Nat.le_trans h.1 (by decide), Nat.le_trans h.2.1 (by decide), Nat.le_trans h.2.2 (by decide)⟩
theorem few_two {a0 a1 a2 b0 b1 b2 : ByteArray} (ha : Mx (a0, a1, a2)) (hb : Mx (b0, b1, b2)) (f : Bool) (h0 : Sh20 (a0, a1, a2) → Sh20 (b0, b1, b2) → f = true) (h1 : ¬ (Sh20 (a0, a1, a2) ∧ Sh20 (b0, b1, b2)) → f = false) (N : Nat) (t : TypeId) (W : World)
    (h : W.heap[N]? = some (.cells #[.string a0, .string a1, .string a2, .string b0, .string b1, .string b2] t (0, 0))) :
    Calls Tryz.prog 19 #[.agg #[.string ⟨#[]⟩, .string ⟨#[]⟩, .string ⟨#[]⟩, .string ⟨#[]⟩], .string ⟨#[]⟩, .slice (some ⟨N, 0, none⟩) 2 2] W fun e w' => e = .returned (.bool f) ∧ Below W.heap.size W w' := by
  have hfew := la_few ⟨#[]⟩ ⟨#[]⟩ ⟨#[]⟩ ⟨#[]⟩ ⟨#[]⟩ (.slice (some ⟨N, 0, none⟩) 2 2) true f W mkE mkE
    (fun N' W' h' => la_Few1 ⟨mkE, mkE, mkE⟩ true (fun _ => rfl) (fun hn => absurd ⟨by decide, by decide, by decide⟩ hn) N' W' h')
    (fun W' hB => la_Few2 ha hb f h0 h1 N W' (keep hB h))
  have e : fewR ⟨#[]⟩ ⟨#[]⟩ true f = f := by unfold fewR; cases f <;> rfl
  rwa [e] at hfew
theorem la_Few3 {a0 a1 a2 b0 b1 b2 c0 c1 c2 : ByteArray} {t : TypeId} (ha : Mx (a0, a1, a2)) (hb : Mx (b0, b1, b2)) (hc : Mx (c0, c1, c2))
    (r : Bool) (h0 : Sh20 (a0, a1, a2) → Sh20 (b0, b1, b2) → Sh20 (c0, c1, c2) → r = true) (h1 : ¬ (Sh20 (a0, a1, a2) ∧ Sh20 (b0, b1, b2) ∧ Sh20 (c0, c1, c2)) → r = false) (N : Nat) (W : World)
    (h : W.heap[N]? = some (.cells #[.string a0, .string a1, .string a2, .string b0, .string b1, .string b2, .string c0, .string c1, .string c2] t (0, 0))) :
    Calls Tryz.prog 46 #[.slice (some ⟨N, 0, none⟩) 3 3] W fun e w' => e = .returned (.bool r) ∧ Below W.heap.size W w' := by
  refine la_Few N 0 3 3 _ r W (by decide) (vecsAt3 h) ?_ (fun hv => h0 (hv 0 (by decide)) (hv 1 (by decide)) (hv 2 (by decide))) ?_
  · intro i hi
    match i, hi with
    | 0, _ => exact ha
    | 1, _ => exact hb
    | 2, _ => exact hc
  · rintro ⟨i, hi, hv⟩
    refine h1 (fun ⟨k1, k2, k3⟩ => hv ?_)
    match i, hi with
    | 0, _ => exact k1
    | 1, _ => exact k2
    | 2, _ => exact k3
theorem few_three {a0 a1 a2 b0 b1 b2 c0 c1 c2 x : ByteArray} (ha : Mx (a0, a1, a2)) (hb : Mx (b0, b1, b2)) (hc : Mx (c0, c1, c2)) (hx : x.size ≤ 9223372036854775807)
    (f : Bool) (h0 : Sh20 (a0, a1, a2) → Sh20 (b0, b1, b2) → Sh20 (c0, c1, c2) → x.size ≤ 20 → f = true) (h1 : ¬ (Sh20 (a0, a1, a2) ∧ Sh20 (b0, b1, b2) ∧ Sh20 (c0, c1, c2) ∧ x.size ≤ 20) → f = false) (N : Nat) (t : TypeId) (W : World)
    (h : W.heap[N]? = some (.cells #[.string a0, .string a1, .string a2, .string b0, .string b1, .string b2, .string c0, .string c1, .string c2] t (0, 0))) :
    Calls Tryz.prog 19 #[.agg #[.string ⟨#[]⟩, .string ⟨#[]⟩, .string ⟨#[]⟩, .string ⟨#[]⟩], .string x, .slice (some ⟨N, 0, none⟩) 3 3] W fun e w' => e = .returned (.bool f) ∧ Below W.heap.size W w' := by
  obtain ⟨r3, k0, k1⟩ : ∃ r3 : Bool, (Sh20 (a0, a1, a2) → Sh20 (b0, b1, b2) → Sh20 (c0, c1, c2) → r3 = true) ∧ (¬ (Sh20 (a0, a1, a2) ∧ Sh20 (b0, b1, b2) ∧ Sh20 (c0, c1, c2)) → r3 = false) := by
    by_cases k : Sh20 (a0, a1, a2) ∧ Sh20 (b0, b1, b2) ∧ Sh20 (c0, c1, c2)
    · exact ⟨true, fun _ _ _ => rfl, fun hn => absurd k hn⟩
    · exact ⟨false, fun x y z => absurd ⟨x, y, z⟩ k, fun _ => rfl⟩
  have hfew := la_few ⟨#[]⟩ ⟨#[]⟩ ⟨#[]⟩ ⟨#[]⟩ x (.slice (some ⟨N, 0, none⟩) 3 3) true r3 W mkE hx
    (fun N' W' h' => la_Few1 ⟨mkE, mkE, mkE⟩ true (fun _ => rfl) (fun hn => absurd ⟨by decide, by decide, by decide⟩ hn) N' W' h')
    (fun W' hB => la_Few3 ha hb hc r3 k0 k1 N W' (keep hB h))
  have e : fewR ⟨#[]⟩ x true r3 = f := by
    unfold fewR
    by_cases k : Sh20 (a0, a1, a2) ∧ Sh20 (b0, b1, b2) ∧ Sh20 (c0, c1, c2)
    · rw [k0 k.1 k.2.1 k.2.2]
      by_cases kx : x.size ≤ 20
      · rw [h0 k.1 k.2.1 k.2.2 kx, decide_eq_true kx]; rfl
      · rw [h1 (fun q => kx q.2.2.2), decide_eq_false kx]; rfl
    · rw [k1 k, h1 (fun q => k ⟨q.1, q.2.1, q.2.2.1⟩), Bool.and_false]
  rwa [e] at hfew
theorem sz_det {k : Nat} {a b c : V3} (ha : SzV k a) (hb : SzV k b) (hc : SzV k c) : Sz (160 * k) (detV a b c) :=
  (sz_dot (ha.mono (show k ≤ 8 * k by omega)) (szV_cross hb hc)).mono (by omega)
theorem valid_rs (a : V3) (h : SzV 21 a) (w : World) (hE : Env w) : Calls Tryz.prog 32 #[vV a] w fun e w' => e = .returned (.bool true) ∧ Below w.heap.size w w' := by
  have h := ve_Valid (rs a.x) (rs a.y) (rs a.z) w hE (sh_of h (by decide)).1 (sh_of h (by decide)).2.1 (sh_of h (by decide)).2.2
  rwa [rvB_rs, rvB_rs, rvB_rs] at h
end Go.Proofs.YtgbabmkclojgeaaGreatDoor
