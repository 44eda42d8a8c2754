/- A PART OF THE PROOF, JOINED OUT OF 3 TEXTS. -/
import Derived.Test.YthkkdepppjiaeaaGreatDoorPlVector
import Derived.Test.YthkkdepppjiaeaaGreatDoorQjRef
import Derived.Test.YthkkdepppjiaeaaGreatDoorQkRef
/- Attitudes: cosine and sine out of the tangent of the half, the unit vectors, what turning and turning back do (plain arithmetic; no program is named). -/
namespace Go.Proofs.YthkkdepppjiaeaaGreatDoor

def cosQ (p : Rat) : Rat := (1 - p * p) / (1 + p * p)
def sinQ (p : Rat) : Rat := 2 * p / (1 + p * p)
theorem sq_nonneg (p : Rat) : 0 ≤ p * p := by
  rcases Rat.le_total (a := 0) (b := p) with h | h
  · exact Rat.mul_nonneg h h
  · have := Rat.mul_nonneg (a := -p) (b := -p) (by grind) (by grind)
    grind
theorem one_sq_ne (p : Rat) : 1 + p * p ≠ 0 := by
  have := sq_nonneg p
  intro h
  grind
theorem cos_neg (p : Rat) : cosQ (-p) = cosQ p := by
  unfold cosQ
  rw [show -p * -p = p * p by grind]
theorem sin_neg (p : Rat) : sinQ (-p) = -sinQ p := by
  unfold sinQ
  rw [show -p * -p = p * p by grind, Rat.div_def, Rat.div_def]
  grind
/-- As the reference reckons the sine. -/
theorem sin_two (p : Rat) : (p + p) / (1 + p * p) = sinQ p := by
  unfold sinQ
  rw [show p + p = 2 * p by grind]

def axA (p q : Rat) : V3 := ⟨cosQ q, -(sinQ p * sinQ q), cosQ p * sinQ q⟩
def axS (p : Rat) : V3 := ⟨0, cosQ p, sinQ p⟩
def axU (p q : Rat) : V3 := ⟨-(sinQ q), -(sinQ p * cosQ q), cosQ p * cosQ q⟩
def turnV (p q : Rat) (r : V3) : V3 := ⟨dotV (axA p q) r, dotV (axS p) r, dotV (axU p q) r⟩
theorem turn_mirror (p q x y z : Rat) : turnV (-p) q ⟨x, -y, z⟩ = ⟨(turnV p q ⟨x, y, z⟩).x, -(turnV p q ⟨x, y, z⟩).y, (turnV p q ⟨x, y, z⟩).z⟩ := by
  unfold turnV axA axS axU dotV
  simp only [cos_neg, sin_neg, V3.mk.injEq]
  exact ⟨by grind, by grind, by grind⟩

/-! Sizes. -/
theorem sz_one : Sz 1 (1 : Rat) := by
  have h : nl 1 ≤ 1 := by unfold nl; rw [Lib.decDigits]; decide
  exact ⟨h, h⟩
theorem sz_two : Sz 1 (2 : Rat) := by
  have h : nl 1 ≤ 1 := by unfold nl; rw [Lib.decDigits]; decide
  have h2 : nl 2 ≤ 1 := by unfold nl; rw [Lib.decDigits]; decide
  exact ⟨h2, h⟩
theorem sz_cosQ {k : Nat} {p : Rat} (h : Sz k p) : Sz (16 * k + 8) (cosQ p) := by
  unfold cosQ
  exact (sz_div (sz_sub sz_one (sz_mul h h)) (sz_add sz_one (sz_mul h h)) (one_sq_ne p)).mono (by omega)
theorem sz_sinQ {k : Nat} {p : Rat} (h : Sz k p) : Sz (16 * k + 8) (sinQ p) := by
  unfold sinQ
  exact (sz_div (sz_mul sz_two h) (sz_add sz_one (sz_mul h h)) (one_sq_ne p)).mono (by omega)
theorem szV_axA {k : Nat} {p q : Rat} (hp : Sz k p) (hq : Sz k q) : SzV (32 * k + 16) (axA p q) :=
  ⟨(sz_cosQ hq).mono (by omega), (sz_neg (sz_mul (sz_sinQ hp) (sz_sinQ hq))).mono (by omega), (sz_mul (sz_cosQ hp) (sz_sinQ hq)).mono (by omega)⟩
theorem szV_axS {k : Nat} {p : Rat} (hp : Sz k p) (h1 : 1 ≤ k) : SzV (32 * k + 16) (axS p) := ⟨sz_0 _ (by omega), (sz_cosQ hp).mono (by omega), (sz_sinQ hp).mono (by omega)⟩
theorem szV_axU {k : Nat} {p q : Rat} (hp : Sz k p) (hq : Sz k q) : SzV (32 * k + 16) (axU p q) :=
  ⟨(sz_neg (sz_sinQ hq)).mono (by omega), (sz_neg (sz_mul (sz_sinQ hp) (sz_cosQ hq))).mono (by omega), (sz_mul (sz_cosQ hp) (sz_cosQ hq)).mono (by omega)⟩
theorem szV_turn {k : Nat} {p q : Rat} {r : V3} (hp : Sz k p) (hq : Sz k q) (hr : SzV k r) (h1 : 1 ≤ k) : SzV (20 * (32 * k + 16)) (turnV p q r) :=
  have hr' : SzV (32 * k + 16) r := hr.mono (by omega)
  ⟨sz_dot (szV_axA hp hq) hr', sz_dot (szV_axS hp h1) hr', sz_dot (szV_axU hp hq) hr'⟩
end Go.Proofs.YthkkdepppjiaeaaGreatDoor

/- Walks of the program's package angle: the operations on numbers, within, Valid, check, Cosine, Sine. -/
namespace Go.Proofs.YthkkdepppjiaeaaGreatDoor
open Go.RowKit Go.Shelf Go.Sort

attribute [local go_sem] Oper.semAt_some

theorem iS_q1 {k : Nat} {c : UInt8} (h : k < 10) (hc : c = UInt8.ofNat (48 + k)) : iS (k : Int) = ⟨#[c]⟩ := by
  rw [iS_nat]; unfold nS
  rw [Lib.decDigits, dif_pos h, hc]
theorem iS_qn {k : Nat} {c : UInt8} (h0 : 0 < k) (h : k < 10) (hc : c = UInt8.ofNat (48 + k)) : iS (-(k : Int)) = ⟨#[45, c]⟩ := by
  unfold iS
  rw [if_pos (by omega), show (-(k : Int)).natAbs = k by omega, Lib.decDigits, dif_pos h, hc]
theorem nS_q1 {k : Nat} {c : UInt8} (h : k < 10) (hc : c = UInt8.ofNat (48 + k)) : nS k = ⟨#[c]⟩ := by
  unfold nS
  rw [Lib.decDigits, dif_pos h, hc]
theorem lit_1 : rs 1 = ⟨#[49]⟩ := (rs_one rfl).trans (iS_q1 (k := 1) (by decide) rfl)
theorem lit_2 : rs 2 = ⟨#[50]⟩ := (rs_one rfl).trans (iS_q1 (k := 2) (by decide) rfl)
theorem lit_m1 : rs (-1) = ⟨#[45, 49]⟩ := (rs_one rfl).trans (iS_qn (k := 1) (by decide) (by decide) rfl)
theorem half_num : ((1 : Rat) / 2).num = 1 := by decide +kernel
theorem half_den : ((1 : Rat) / 2).den = 2 := by decide +kernel
theorem lit_half : rs (1 / 2) = ⟨#[49, 47, 50]⟩ := by
  rw [rs_frac (by rw [half_den]; decide), half_num, half_den, nS_q1 (k := 2) (by decide) rfl, show iS 1 = ⟨#[49]⟩ from iS_q1 (k := 1) (by decide) rfl]
  rfl
theorem sz_m1 : Sz 1 (-1 : Rat) := sz_neg sz_one
theorem sz_half : Sz 2 ((1 : Rat) / 2) := (sz_div sz_one sz_two (by decide +kernel)).mono (by decide)

/-- Is a number from -end to end? -/
def wiQ (x e : Rat) : Bool := !decide (cmpQ e x < 0) && !decide (cmpQ x (0 - e) < 0)

set_option maxHeartbeats 2000000 in
theorem an_add (x y : Rat) (w : World) (hE : Env w) (hx : Sz 5000000 x) (hy : Sz 5000000 y) :
    Calls Tryz.prog 178 #[.string (rs x), .string (rs y)] w fun e w' => e = .returned (.string (rs (x + y))) ∧ Below w.heap.size w w' := by
  have HA := Lib.hid (ra_Add x y w hE hx hy)
  clear hE hx hy
  generalize rs (x + y) = z at *
  go_enter Tryz.func178, Tryz.ntmps178
  go_wp2_with fail
  refine HA.out.mono ?_
  rintro e w1 ⟨rfl, hB⟩
  go_wp2_with fail
  go_ret
  exact ⟨rfl, hB⟩
set_option maxHeartbeats 2000000 in
theorem an_sub (x y : Rat) (w : World) (hE : Env w) (hx : Sz 5000000 x) (hy : Sz 5000000 y) :
    Calls Tryz.prog 173 #[.string (rs x), .string (rs y)] w fun e w' => e = .returned (.string (rs (x - y))) ∧ Below w.heap.size w w' := by
  have HA := Lib.hid (ra_Sub x y w hE hx hy)
  clear hE hx hy
  generalize rs (x - y) = z at *
  go_enter Tryz.func173, Tryz.ntmps173
  go_wp2_with fail
  refine HA.out.mono ?_
  rintro e w1 ⟨rfl, hB⟩
  go_wp2_with fail
  go_ret
  exact ⟨rfl, hB⟩
set_option maxHeartbeats 2000000 in
theorem an_mul (x y : Rat) (w : World) (hE : Env w) (hx : Sz 5000000 x) (hy : Sz 5000000 y) :
    Calls Tryz.prog 176 #[.string (rs x), .string (rs y)] w fun e w' => e = .returned (.string (rs (x * y))) ∧ Below w.heap.size w w' := by
  have HA := Lib.hid (ra_Mul x y w hE hx hy)
  clear hE hx hy
  generalize rs (x * y) = z at *
  go_enter Tryz.func176, Tryz.ntmps176
  go_wp2_with fail
  refine HA.out.mono ?_
  rintro e w1 ⟨rfl, hB⟩
  go_wp2_with fail
  go_ret
  exact ⟨rfl, hB⟩
set_option maxHeartbeats 2000000 in
theorem an_div (x y : Rat) (w : World) (hE : Env w) (hx : Sz 5000000 x) (hy : Sz 5000000 y) (h0 : y ≠ 0) :
    Calls Tryz.prog 177 #[.string (rs x), .string (rs y)] w fun e w' => e = .returned (.string (rs (x / y))) ∧ Below w.heap.size w w' := by
  have HA := Lib.hid (ra_Div x y w hE hx hy h0)
  clear hE hx hy h0
  generalize rs (x / y) = z at *
  go_enter Tryz.func177, Tryz.ntmps177
  go_wp2_with fail
  refine HA.out.mono ?_
  rintro e w1 ⟨rfl, hB⟩
  go_wp2_with fail
  go_ret
  exact ⟨rfl, hB⟩
set_option maxHeartbeats 2000000 in
theorem an_less (x y : Rat) (w : World) (hE : Env w) (hx : Sz 5000000 x) (hy : Sz 5000000 y) :
    Calls Tryz.prog 172 #[.string (rs x), .string (rs y)] w fun e w' => e = .returned (.bool (decide (cmpQ x y < 0))) ∧ Below w.heap.size w w' := by
  have HA := Lib.hid (ra_Compare x y w hE hx hy)
  clear hE hx hy
  generalize cmpQ x y = z at *
  go_enter Tryz.func172, Tryz.ntmps172
  go_wp2_with fail
  refine HA.out.mono ?_
  rintro e w1 ⟨rfl, hB⟩
  go_wp2_with fail
  go_ret
  exact ⟨rfl, hB⟩

set_option maxRecDepth 100000 in
set_option maxHeartbeats 4000000 in
theorem an_within_aux (x u m : ByteArray) (b1 b2 : Bool) (w : World) (hE : Env w)
    (h1 : ∀ w, Env w → Calls Tryz.prog 172 #[.string u, .string x] w fun e w' => e = .returned (.bool b1) ∧ Below w.heap.size w w')
    (h2 : ∀ w, Env w → Calls Tryz.prog 173 #[.string ⟨#[48]⟩, .string u] w fun e w' => e = .returned (.string m) ∧ Below w.heap.size w w')
    (h3 : ∀ w, Env w → Calls Tryz.prog 172 #[.string x, .string m] w fun e w' => e = .returned (.bool b2) ∧ Below w.heap.size w w') :
    Calls Tryz.prog 145 #[.string x, .string u] w fun e w' => e = .returned (.bool (!b1 && !b2)) ∧ Below w.heap.size w w' := by
  have H1 := Lib.hid h1
  have H2 := Lib.hid h2
  have H3 := Lib.hid h3
  have HE := Lib.hid hE
  clear hE h1 h2 h3
  cases b1
  · cases b2
    all_goals
      go_enter Tryz.func145, Tryz.ntmps145
      go_wp2_with fail
      refine (H1.out _ HE.out).mono ?_
      rintro e w1 ⟨rfl, hB⟩
      go_wp2_with fail
      refine (H2.out _ (HE.out.below hB)).mono ?_
      rintro e w2 ⟨rfl, hb⟩
      replace hB := bstep hB hb
      clear hb
      go_wp2_with fail
      refine (H3.out _ (HE.out.below hB)).mono ?_
      rintro e w3 ⟨rfl, hb⟩
      replace hB := bstep hB hb
      clear hb
      go_wp2_with fail
      go_ret
      exact ⟨rfl, hB⟩
  · go_enter Tryz.func145, Tryz.ntmps145
    go_wp2_with fail
    refine (H1.out _ HE.out).mono ?_
    rintro e w1 ⟨rfl, hB⟩
    go_wp2_with fail
    go_ret
    exact ⟨rfl, hB⟩
theorem an_within (x u : Rat) (w : World) (hE : Env w) (hx : Sz 1000000 x) (he : Sz 1000000 u) :
    Calls Tryz.prog 145 #[.string (rs x), .string (rs u)] w fun e w' => e = .returned (.bool (wiQ x u)) ∧ Below w.heap.size w w' := by
  refine an_within_aux _ _ (rs (0 - u)) _ _ w hE (fun w hE => an_less u x w hE (he.mono (by decide)) (hx.mono (by decide))) ?_ (fun w hE => an_less x (0 - u) w hE (hx.mono (by decide)) ((sz_sub (sz_0 1 (by decide)) he).mono (by decide)))
  intro w hE
  have h := an_sub 0 u w hE (sz_0 _ (by decide)) (he.mono (by decide))
  rwa [rs_0] at h


set_option maxRecDepth 100000 in
set_option maxHeartbeats 4000000 in
theorem an_Valid_aux (s : ByteArray) (v b : Bool) (w : World) (hE : Env w)
    (h1 : ∀ w, Env w → Calls Tryz.prog 102 #[.string s] w fun e w' => e = .returned (.bool v) ∧ Below w.heap.size w w')
    (h2 : v = true → ∀ w, Env w → Calls Tryz.prog 145 #[.string s, .string ⟨#[49]⟩] w fun e w' => e = .returned (.bool b) ∧ Below w.heap.size w w') :
    Calls Tryz.prog 110 #[.string s] w fun e w' => e = .returned (.bool (v && b)) ∧ Below w.heap.size w w' := by
  have H1 := Lib.hid h1
  have H2 := Lib.hid h2
  have HE := Lib.hid hE
  clear hE h1 h2
  cases v
  · go_enter Tryz.func110, Tryz.ntmps110
    go_wp2_with fail
    refine (H1.out _ HE.out).mono ?_
    rintro e w1 ⟨rfl, hB⟩
    go_wp2_with fail
    go_ret
    exact ⟨rfl, hB⟩
  · have J2 := Lib.hid (H2.out rfl)
    clear H2
    go_enter Tryz.func110, Tryz.ntmps110
    go_wp2_with fail
    refine (H1.out _ HE.out).mono ?_
    rintro e w1 ⟨rfl, hB⟩
    go_wp2_with fail
    refine (J2.out _ (HE.out.below hB)).mono ?_
    rintro e w2 ⟨rfl, hb⟩
    replace hB := bstep hB hb
    clear hb
    go_wp2_with fail
    go_ret
    exact ⟨rfl, hB⟩
theorem an_Valid (s : ByteArray) (w : World) (hE : Env w) (hs : s.size ≤ 100000) :
    Calls Tryz.prog 110 #[.string s] w fun e w' => e = .returned (.bool (rvB s && wiQ (rvX s) 1)) ∧ Below w.heap.size w w' := by
  refine an_Valid_aux s _ _ w hE (fun w hE => ra_Valid s w hE (Nat.le_trans hs (by decide))) ?_
  intro hv w hE
  obtain ⟨x, hx⟩ := (rvB_iff s).1 hv
  subst hx
  rw [rvX_rs, ← lit_1]
  have hz : Sz 100001 x := by have := sz_rvX hs (show 1 ≤ 100000 by decide); rwa [rvX_rs] at this
  exact an_within x 1 w hE (hz.mono (by decide)) (sz_one.mono (by decide))


set_option maxRecDepth 100000 in
set_option maxHeartbeats 4000000 in
theorem an_check1 (x : Rat) (N : Nat) (t : TypeId) (w : World) (hE : Env w) (hx : Sz 1000000 x) (hi : wiQ x 1 = true) (hr : w.heap[N]? = some (.cells #[.string (rs x)] t (0, 0))) :
    Calls Tryz.prog 175 #[.slice (some ⟨N, 0, none⟩) 1 1] w fun e w' => e = .returned (.int .i64 0) ∧ Below w.heap.size w w' := by
  have h1 := fun w hE => ra_Valid (rs x) w hE (by have := rs_size x; have := hx.1; have := hx.2; omega)
  rw [rvB_rs] at h1
  have H1 := Lib.hid h1
  have h2 := fun w hE => an_within x 1 w hE hx (sz_one.mono (by decide))
  rw [hi, lit_1] at h2
  have H2 := Lib.hid h2
  have HC : Hid (∀ W, Below w.heap.size w W → W.cell? ⟨N, 0, none⟩ = some (.string (rs x))) := Lib.hid (fun W hb => cell_of_row W _ 0 _ _ _ (keep hb hr))
  have HE := Lib.hid hE
  clear hE h1 h2 hr hi hx
  generalize rs x = s at *
  go_enter Tryz.func175, Tryz.ntmps175
  go_wp2_with fail
  go_loopw [9] (fun x wr => ∃ k : Int, x = .int .i64 k ∧ Below w.heap.size w wr ∧ (k = 0 ∨ k = 1)) (fun x _ => (1 - intOf x).toNat)
  case atStart => exact ⟨0, rfl, Below.refl _ _, Or.inl rfl⟩
  case round =>
    obtain ⟨k, rfl, hBr, hk⟩ := hrel
    rcases hk with rfl | rfl
    · have c0 := HC.out _ hBr
      go_wp2_with fail
      clear c0
      refine (H1.out _ (HE.out.below hBr)).mono ?_
      rintro e w2 ⟨rfl, hb⟩
      replace hBr := bstep hBr hb
      clear hb
      go_wp2_with fail
      go_roundw
      case rel => exact ⟨1, rfl, hBr, by simp⟩
      case measure => decide
    · go_wp2_with fail
      go_loopw [19] (fun x wr => ∃ k : Int, x = .int .i64 k ∧ Below w.heap.size w wr ∧ (k = 0 ∨ k = 1)) (fun x _ => (1 - intOf x).toNat)
      case atStart => exact ⟨0, rfl, hBr, Or.inl rfl⟩
      case round =>
        clear hBr
        obtain ⟨k, rfl, hBr, hk⟩ := hrel
        rcases hk with rfl | rfl
        · have c0 := HC.out _ hBr
          go_wp2_with fail
          clear c0
          refine (H2.out _ (HE.out.below hBr)).mono ?_
          rintro e w2 ⟨rfl, hb⟩
          replace hBr := bstep hBr hb
          clear hb
          go_wp2_with fail
          go_roundw
          case rel => exact ⟨1, rfl, hBr, by simp⟩
          case measure => decide
        · go_wp2_with fail
          go_ret
          exact ⟨rfl, hBr⟩


set_option maxRecDepth 100000 in
set_option maxHeartbeats 4000000 in
theorem an_Cosine_aux (x s a b z : ByteArray) (w : World) (hE : Env w)
    (hc : ∀ N t w, Env w → w.heap[N]? = some (.cells #[.string x] t (0, 0)) → Calls Tryz.prog 175 #[.slice (some ⟨N, 0, none⟩) 1 1] w fun e w' => e = .returned (.int .i64 0) ∧ Below w.heap.size w w')
    (h0 : ∀ w, Env w → Calls Tryz.prog 176 #[.string x, .string x] w fun e w' => e = .returned (.string s) ∧ Below w.heap.size w w')
    (h1 : ∀ w, Env w → Calls Tryz.prog 173 #[.string ⟨#[49]⟩, .string s] w fun e w' => e = .returned (.string a) ∧ Below w.heap.size w w')
    (h2 : ∀ w, Env w → Calls Tryz.prog 178 #[.string ⟨#[49]⟩, .string s] w fun e w' => e = .returned (.string b) ∧ Below w.heap.size w w')
    (h3 : ∀ w, Env w → Calls Tryz.prog 177 #[.string a, .string b] w fun e w' => e = .returned (.string z) ∧ Below w.heap.size w w') :
    Calls Tryz.prog 150 #[.string x] w fun e w' => e = .returned (.tuple #[.string z, .int .i64 0]) ∧ Below w.heap.size w w' := by
  have HC := Lib.hid hc
  have H0 := Lib.hid h0
  have H1 := Lib.hid h1
  have H2 := Lib.hid h2
  have H3 := Lib.hid h3
  have HE := Lib.hid hE
  clear hE hc h0 h1 h2 h3
  go_enter Tryz.func150, Tryz.ntmps150
  go_wp2_with fail
  generalize hW : World.alloc w _ = W
  obtain ⟨hB, hsz, RS⟩ := A1 hW
  have RS := Lib.hid RS
  clear hW hsz
  refine (HC.out _ _ _ (HE.out.below hB) RS.out).mono ?_
  rintro e w1 ⟨rfl, hb⟩
  replace hB := bstep hB hb
  clear hb RS
  go_wp2_with fail
  refine (H0.out _ (HE.out.below hB)).mono ?_
  rintro e w2 ⟨rfl, hb⟩
  replace hB := bstep hB hb
  clear hb
  go_wp2_with fail
  refine (H1.out _ (HE.out.below hB)).mono ?_
  rintro e w3 ⟨rfl, hb⟩
  replace hB := bstep hB hb
  clear hb
  go_wp2_with fail
  refine (H2.out _ (HE.out.below hB)).mono ?_
  rintro e w4 ⟨rfl, hb⟩
  replace hB := bstep hB hb
  clear hb
  go_wp2_with fail
  refine (H3.out _ (HE.out.below hB)).mono ?_
  rintro e w5 ⟨rfl, hb⟩
  replace hB := bstep hB hb
  clear hb
  go_wp2_with fail
  exact bodyPost_ret (results_tmp2 rfl _ _ _) rfl ⟨rfl, hB⟩
theorem an_Cosine (x : Rat) (w : World) (hE : Env w) (hx : Sz 1000 x) (hi : wiQ x 1 = true) :
    Calls Tryz.prog 150 #[.string (rs x)] w fun e w' => e = .returned (.tuple #[.string (rs (cosQ x)), .int .i64 0]) ∧ Below w.heap.size w w' := by
  refine an_Cosine_aux (rs x) (rs (x * x)) (rs (1 - x * x)) (rs (1 + x * x)) _ w hE (fun N t w hE h => an_check1 x N t w hE (hx.mono (by decide)) hi h) ?_ ?_ ?_ ?_
  · intro w hE
    have h := an_mul x x w hE (hx.mono (by decide)) (hx.mono (by decide))
    exact h
  · intro w hE
    have h := an_sub 1 (x * x) w hE (sz_one.mono (by decide)) ((sz_mul hx hx).mono (by decide))
    rw [lit_1] at h
    exact h
  · intro w hE
    have h := an_add 1 (x * x) w hE (sz_one.mono (by decide)) ((sz_mul hx hx).mono (by decide))
    rw [lit_1] at h
    exact h
  · intro w hE
    have h := an_div (1 - x * x) (1 + x * x) w hE ((sz_sub sz_one (sz_mul hx hx)).mono (by decide)) ((sz_add sz_one (sz_mul hx hx)).mono (by decide)) (one_sq_ne x)
    exact h


set_option maxRecDepth 100000 in
set_option maxHeartbeats 4000000 in
theorem an_Sine_aux (x s a b z : ByteArray) (w : World) (hE : Env w)
    (hc : ∀ N t w, Env w → w.heap[N]? = some (.cells #[.string x] t (0, 0)) → Calls Tryz.prog 175 #[.slice (some ⟨N, 0, none⟩) 1 1] w fun e w' => e = .returned (.int .i64 0) ∧ Below w.heap.size w w')
    (h0 : ∀ w, Env w → Calls Tryz.prog 176 #[.string ⟨#[50]⟩, .string x] w fun e w' => e = .returned (.string a) ∧ Below w.heap.size w w')
    (h1 : ∀ w, Env w → Calls Tryz.prog 176 #[.string x, .string x] w fun e w' => e = .returned (.string s) ∧ Below w.heap.size w w')
    (h2 : ∀ w, Env w → Calls Tryz.prog 178 #[.string ⟨#[49]⟩, .string s] w fun e w' => e = .returned (.string b) ∧ Below w.heap.size w w')
    (h3 : ∀ w, Env w → Calls Tryz.prog 177 #[.string a, .string b] w fun e w' => e = .returned (.string z) ∧ Below w.heap.size w w') :
    Calls Tryz.prog 151 #[.string x] w fun e w' => e = .returned (.tuple #[.string z, .int .i64 0]) ∧ Below w.heap.size w w' := by
  have HC := Lib.hid hc
  have H0 := Lib.hid h0
  have H1 := Lib.hid h1
  have H2 := Lib.hid h2
  have H3 := Lib.hid h3
  have HE := Lib.hid hE
  clear hE hc h0 h1 h2 h3
  go_enter Tryz.func151, Tryz.ntmps151
  go_wp2_with fail
  generalize hW : World.alloc w _ = W
  obtain ⟨hB, hsz, RS⟩ := A1 hW
  have RS := Lib.hid RS
  clear hW hsz
  refine (HC.out _ _ _ (HE.out.below hB) RS.out).mono ?_
  rintro e w1 ⟨rfl, hb⟩
  replace hB := bstep hB hb
  clear hb RS
  go_wp2_with fail
  refine (H0.out _ (HE.out.below hB)).mono ?_
  rintro e w2 ⟨rfl, hb⟩
  replace hB := bstep hB hb
  clear hb
  go_wp2_with fail
  refine (H1.out _ (HE.out.below hB)).mono ?_
  rintro e w3 ⟨rfl, hb⟩
  replace hB := bstep hB hb
  clear hb
  go_wp2_with fail
  refine (H2.out _ (HE.out.below hB)).mono ?_
  rintro e w4 ⟨rfl, hb⟩
  replace hB := bstep hB hb
  clear hb
  go_wp2_with fail
  refine (H3.out _ (HE.out.below hB)).mono ?_
  rintro e w5 ⟨rfl, hb⟩
  replace hB := bstep hB hb
  clear hb
  go_wp2_with fail
  exact bodyPost_ret (results_tmp2 rfl _ _ _) rfl ⟨rfl, hB⟩
theorem an_Sine (x : Rat) (w : World) (hE : Env w) (hx : Sz 1000 x) (hi : wiQ x 1 = true) :
    Calls Tryz.prog 151 #[.string (rs x)] w fun e w' => e = .returned (.tuple #[.string (rs (sinQ x)), .int .i64 0]) ∧ Below w.heap.size w w' := by
  refine an_Sine_aux (rs x) (rs (x * x)) (rs (2 * x)) (rs (1 + x * x)) _ w hE (fun N t w hE h => an_check1 x N t w hE (hx.mono (by decide)) hi h) ?_ ?_ ?_ ?_
  · intro w hE
    have h := an_mul 2 x w hE (sz_two.mono (by decide)) (hx.mono (by decide))
    rw [lit_2] at h
    exact h
  · intro w hE
    have h := an_mul x x w hE (hx.mono (by decide)) (hx.mono (by decide))
    exact h
  · intro w hE
    have h := an_add 1 (x * x) w hE (sz_one.mono (by decide)) ((sz_mul hx hx).mono (by decide))
    rw [lit_1] at h
    exact h
  · intro w hE
    have h := an_div (2 * x) (1 + x * x) w hE ((sz_mul sz_two hx).mono (by decide)) ((sz_add sz_one (sz_mul hx hx)).mono (by decide)) (one_sq_ne x)
    exact h

end Go.Proofs.YthkkdepppjiaeaaGreatDoor

/- Walks of the program's package attitude: numbers, Check, turn, axes, point, Of, Water, Mirror. -/
namespace Go.Proofs.YthkkdepppjiaeaaGreatDoor
open Go.RowKit Go.Shelf Go.Sort

attribute [local go_sem] Oper.semAt_some

set_option maxHeartbeats 2000000 in
theorem at_mul (x y : Rat) (w : World) (hE : Env w) (hx : Sz 5000000 x) (hy : Sz 5000000 y) :
    Calls Tryz.prog 122 #[.string (rs x), .string (rs y)] w fun e w' => e = .returned (.string (rs (x * y))) ∧ Below w.heap.size w w' := by
  have HA := Lib.hid (ra_Mul x y w hE hx hy)
  clear hE hx hy
  generalize rs (x * y) = z at *
  go_enter Tryz.func122, Tryz.ntmps122
  go_wp2_with fail
  refine HA.out.mono ?_
  rintro e w1 ⟨rfl, hB⟩
  go_wp2_with fail
  go_ret
  exact ⟨rfl, hB⟩
set_option maxHeartbeats 2000000 in
theorem at_less (x y : Rat) (w : World) (hE : Env w) (hx : Sz 5000000 x) (hy : Sz 5000000 y) :
    Calls Tryz.prog 111 #[.string (rs x), .string (rs y)] w fun e w' => e = .returned (.bool (decide (cmpQ x y < 0))) ∧ Below w.heap.size w w' := by
  have HA := Lib.hid (ra_Compare x y w hE hx hy)
  clear hE hx hy
  generalize cmpQ x y = z at *
  go_enter Tryz.func111, Tryz.ntmps111
  go_wp2_with fail
  refine HA.out.mono ?_
  rintro e w1 ⟨rfl, hB⟩
  go_wp2_with fail
  go_ret
  exact ⟨rfl, hB⟩

set_option maxRecDepth 100000 in
set_option maxHeartbeats 4000000 in
theorem at_opposite (x : Rat) (w : World) (hE : Env w) (hx : Sz 1000000 x) :
    Calls Tryz.prog 112 #[.string (rs x)] w fun e w' => e = .returned (.string (rs (-x))) ∧ Below w.heap.size w w' := by
  have h1 := fun w hE => at_mul (-1) x w hE (sz_m1.mono (by decide)) (hx.mono (by decide))
  rw [lit_m1, show -1 * x = -x by grind] at h1
  have H1 := Lib.hid h1
  have HE := Lib.hid hE
  clear hE h1 hx
  generalize rs (-x) = z at *
  go_enter Tryz.func112, Tryz.ntmps112
  go_wp2_with fail
  refine (H1.out _ HE.out).mono ?_
  rintro e w1 ⟨rfl, hB⟩
  go_wp2_with fail
  go_ret
  exact ⟨rfl, hB⟩


set_option maxRecDepth 100000 in
set_option maxHeartbeats 4000000 in
theorem at_numbers (s : ByteArray × ByteArray) (w : World) (hE : Env w) (h1 : s.1.size ≤ 100000) (h2 : s.2.size ≤ 100000) :
    Calls Tryz.prog 82 #[.agg #[.string s.1, .string s.2]] w fun e w' => e = .returned (.bool (rvB s.1 && rvB s.2)) ∧ Below w.heap.size w w' := by
  have H1 := Lib.hid (fun w hE => ra_Valid s.1 w hE (Nat.le_trans h1 (by decide)))
  have H2 := Lib.hid (fun w hE => ra_Valid s.2 w hE (Nat.le_trans h2 (by decide)))
  have HE := Lib.hid hE
  clear hE h1 h2
  obtain ⟨h, t⟩ := s
  simp only at *
  generalize rvB h = v1 at *
  generalize rvB t = v2 at *
  cases v1
  · go_enter Tryz.func82, Tryz.ntmps82
    go_wp2_with fail
    generalize hW : World.alloc w _ = W
    obtain ⟨hB, hsz, R1⟩ := A1 hW
    have R1 := Lib.hid R1
    clear hW hsz
    obtain ⟨c0, c1, f0, f1⟩ := row2 R1.out
    go_wp2_with fail
    clear c0 c1 f0 f1
    refine (H1.out _ (HE.out.below hB)).mono ?_
    rintro e w1 ⟨rfl, hb⟩
    replace hB := bstep hB hb
    have R1 := Lib.hid (keep hb R1.out)
    clear hb
    go_wp2_with fail
    go_ret
    exact ⟨rfl, hB⟩
  · go_enter Tryz.func82, Tryz.ntmps82
    go_wp2_with fail
    generalize hW : World.alloc w _ = W
    obtain ⟨hB, hsz, R1⟩ := A1 hW
    have R1 := Lib.hid R1
    clear hW hsz
    obtain ⟨c0, c1, f0, f1⟩ := row2 R1.out
    go_wp2_with fail
    clear c0 c1 f0 f1
    refine (H1.out _ (HE.out.below hB)).mono ?_
    rintro e w1 ⟨rfl, hb⟩
    replace hB := bstep hB hb
    have R1 := Lib.hid (keep hb R1.out)
    clear hb
    obtain ⟨c0, c1, f0, f1⟩ := row2 R1.out
    go_wp2_with fail
    clear c0 c1 f0 f1
    refine (H2.out _ (HE.out.below hB)).mono ?_
    rintro e w2 ⟨rfl, hb⟩
    replace hB := bstep hB hb
    have R1 := Lib.hid (keep hb R1.out)
    clear hb
    go_wp2_with fail
    go_ret
    exact ⟨rfl, hB⟩

/-- Are heel and trim in range? -/
def inR (p q : Rat) : Bool := wiQ p 1 && !decide (cmpQ (1 / 2) q < 0) && !decide (cmpQ q (-(1 / 2)) < 0)
/-- The error of an attitude: its numbers valid, in range. -/
def acode (v r : Bool) : Int := if v = true then (if r = true then 0 else 2) else 1


set_option maxRecDepth 100000 in
set_option maxHeartbeats 4000000 in
theorem at_Check_aux (h t m : ByteArray) (v b1 b2 b3 : Bool) (w : World) (hE : Env w)
    (h1 : ∀ w, Env w → Calls Tryz.prog 82 #[.agg #[.string h, .string t]] w fun e w' => e = .returned (.bool v) ∧ Below w.heap.size w w')
    (h2 : v = true → ∀ w, Env w → Calls Tryz.prog 110 #[.string h] w fun e w' => e = .returned (.bool b1) ∧ Below w.heap.size w w')
    (h3 : v = true → ∀ w, Env w → Calls Tryz.prog 111 #[.string ⟨#[49, 47, 50]⟩, .string t] w fun e w' => e = .returned (.bool b2) ∧ Below w.heap.size w w')
    (h4 : ∀ w, Env w → Calls Tryz.prog 112 #[.string ⟨#[49, 47, 50]⟩] w fun e w' => e = .returned (.string m) ∧ Below w.heap.size w w')
    (h5 : v = true → ∀ w, Env w → Calls Tryz.prog 111 #[.string t, .string m] w fun e w' => e = .returned (.bool b3) ∧ Below w.heap.size w w') :
    Calls Tryz.prog 76 #[.agg #[.string h, .string t]] w fun e w' => e = .returned (.int .i64 (acode v (b1 && !b2 && !b3))) ∧ Below w.heap.size w w' := by
  have H1 := Lib.hid h1
  have H2 := Lib.hid h2
  have H3 := Lib.hid h3
  have H4 := Lib.hid h4
  have H5 := Lib.hid h5
  have HE := Lib.hid hE
  clear hE h1 h2 h3 h4 h5
  cases v
  · go_enter Tryz.func76, Tryz.ntmps76
    go_wp2_with fail
    generalize hW : World.alloc w _ = W
    obtain ⟨hB, hsz, R1⟩ := A1 hW
    have R1 := Lib.hid R1
    clear hW hsz
    obtain ⟨d0, d1, f0, f1⟩ := row2 R1.out
    go_wp2_with fail
    clear d0 d1 f0 f1
    refine (H1.out _ (HE.out.below hB)).mono ?_
    rintro e w1 ⟨rfl, hb⟩
    replace hB := bstep hB hb
    have R1 := Lib.hid (keep hb R1.out)
    clear hb
    go_wp2_with fail
    go_ret
    exact ⟨rfl, hB⟩
  · have J2 := Lib.hid (H2.out rfl)
    have J3 := Lib.hid (H3.out rfl)
    have J5 := Lib.hid (H5.out rfl)
    clear H2 H3 H5
    obtain ⟨r, hr⟩ : ∃ r, r = acode true (b1 && !b2 && !b3) := ⟨_, rfl⟩
    rw [← hr]
    have HRR := Lib.hid hr
    clear hr
    cases b1 <;> cases b2 <;> cases b3
    all_goals
      go_enter Tryz.func76, Tryz.ntmps76
      go_wp2_with fail
      generalize hW : World.alloc w _ = W
      obtain ⟨hB, hsz, R1⟩ := A1 hW
      have R1 := Lib.hid R1
      clear hW hsz
      obtain ⟨d0, d1, f0, f1⟩ := row2 R1.out
      go_wp2_with fail
      clear d0 d1 f0 f1
      refine (H1.out _ (HE.out.below hB)).mono ?_
      rintro e w1 ⟨rfl, hb⟩
      replace hB := bstep hB hb
      have R1 := Lib.hid (keep hb R1.out)
      clear hb
      go_wp2_with fail
      have c0 : ∀ d os, (grow (redrawn w1 d) os).cell? ⟨w.heap.size, 0, none⟩ = some (.string h) := fun d os => cell_regrown (row2 R1.out).1 d os
      have c1 : ∀ d os, (grow (redrawn w1 d) os).cell? ⟨w.heap.size, 1, none⟩ = some (.string t) := fun d os => cell_regrown (row2 R1.out).2.1 d os
      have hE := HE.out.below hB
      have S1 := Lib.hid (fun d os => Calls.regrown_of (J2.out (grow (redrawn w1 d) os) (hE.below (below_regrown w1 d os))))
      have S2 := Lib.hid (fun d os => Calls.regrown_of (J3.out (grow (redrawn w1 d) os) (hE.below (below_regrown w1 d os))))
      have S3 := Lib.hid (fun d os => Calls.regrown_of (H4.out (grow (redrawn w1 d) os) (hE.below (below_regrown w1 d os))))
      have S4 := Lib.hid (fun d os => Calls.regrown_of (J5.out (grow (redrawn w1 d) os) (hE.below (below_regrown w1 d os))))
      clear hE H1 J2 J3 H4 J5
      refine wp_region_quiet_below (by kernel_rfl) (by kernel_rfl) ?_
      repeat (first | quiet_step (with_reducible exact S1.out _ _) | quiet_step (with_reducible exact S2.out _ _) | quiet_step (with_reducible exact S3.out _ _) | quiet_step (with_reducible exact S4.out _ _))
      refine wpQuiet_nil ?_
      intro _ hw'
      obtain ⟨⟨dq, osq⟩, hw''⟩ := hw'
      subst hw''
      have hb := below_regrown w1 dq osq
      clear c0 c1 S1 S2 S3 S4
      generalize grow (redrawn w1 dq) osq = W3 at *
      go_wp2_with fail
      go_ret
      rw [HRR.out]
      exact ⟨rfl, bstep hB hb⟩

theorem at_Check (s : ByteArray × ByteArray) (w : World) (hE : Env w) (h1 : s.1.size ≤ 100000) (h2 : s.2.size ≤ 100000) :
    Calls Tryz.prog 76 #[.agg #[.string s.1, .string s.2]] w fun e w' => e = .returned (.int .i64 (acode (rvB s.1 && rvB s.2) (inR (rvX s.1) (rvX s.2)))) ∧ Below w.heap.size w w' := by
  obtain ⟨h, t⟩ := s
  refine at_Check_aux h t (rs (-(1 / 2))) _ _ _ _ w hE (fun w hE => at_numbers (h, t) w hE h1 h2) ?_ ?_ ?_ ?_
  · intro hv w hE
    rw [Bool.and_eq_true] at hv
    have k := an_Valid h w hE h1
    rwa [show rvB h = true from hv.1, Bool.true_and] at k
  · intro hv w hE
    rw [Bool.and_eq_true] at hv
    obtain ⟨x, hx⟩ := (rvB_iff t).1 hv.2
    have hz := sz_rvX h2 (show 1 ≤ 100000 by decide)
    have k := at_less (1 / 2) (rvX t) w hE (sz_half.mono (by decide)) (hz.mono (by decide))
    rw [lit_half] at k
    have e : rs (rvX t) = t := by rw [hx, rvX_rs]
    rwa [e] at k
  · intro w hE
    have k := at_opposite (1 / 2) w hE (sz_half.mono (by decide))
    rwa [lit_half] at k
  · intro hv w hE
    rw [Bool.and_eq_true] at hv
    obtain ⟨x, hx⟩ := (rvB_iff t).1 hv.2
    have hz := sz_rvX h2 (show 1 ≤ 100000 by decide)
    have k := at_less (rvX t) (-(1 / 2)) w hE (hz.mono (by decide)) ((sz_neg sz_half).mono (by decide))
    have e : rs (rvX t) = t := by rw [hx, rvX_rs]
    rwa [e] at k


set_option maxRecDepth 100000 in
set_option maxHeartbeats 4000000 in
theorem at_turn (x : Rat) (w : World) (hE : Env w) (hx : Sz 1000 x) (hi : wiQ x 1 = true) :
    Calls Tryz.prog 121 #[.string (rs x)] w fun e w' => e = .returned (.tuple #[.string (rs (cosQ x)), .string (rs (sinQ x))]) ∧ Below w.heap.size w w' := by
  have H1 := Lib.hid (fun w hE => an_Cosine x w hE hx hi)
  have H2 := Lib.hid (fun w hE => an_Sine x w hE hx hi)
  have HE := Lib.hid hE
  clear hE hx hi
  generalize rs (cosQ x) = c at *
  generalize rs (sinQ x) = s at *
  generalize rs x = x at *
  go_enter Tryz.func121, Tryz.ntmps121
  go_wp2_with fail
  refine (H1.out _ HE.out).mono ?_
  rintro e w1 ⟨rfl, hB⟩
  go_wp2_with fail
  refine (H2.out _ (HE.out.below hB)).mono ?_
  rintro e w2 ⟨rfl, hb⟩
  replace hB := bstep hB hb
  clear hb
  go_wp2_with fail
  exact bodyPost_ret (results_tmp2 rfl _ _ _) rfl ⟨rfl, hB⟩

theorem ax9_row : RowTy Tryz.prog 78 9 := rowTy_array Tryz.underlying78 (by kernel_rfl)
set_option maxRecDepth 100000 in
set_option maxHeartbeats 4000000 in
theorem at_axes_aux (h u c s d t m0 m1 z1 z2 z6 z7 z8 : ByteArray) (w : World) (hE : Env w)
    (k1 : ∀ w, Env w → Calls Tryz.prog 121 #[.string h] w fun e w' => e = .returned (.tuple #[.string c, .string s]) ∧ Below w.heap.size w w')
    (k2 : ∀ w, Env w → Calls Tryz.prog 121 #[.string u] w fun e w' => e = .returned (.tuple #[.string d, .string t]) ∧ Below w.heap.size w w')
    (h0 : ∀ w, Env w → Calls Tryz.prog 122 #[.string s, .string t] w fun e w' => e = .returned (.string m0) ∧ Below w.heap.size w w')
    (h1 : ∀ w, Env w → Calls Tryz.prog 112 #[.string m0] w fun e w' => e = .returned (.string z1) ∧ Below w.heap.size w w')
    (h2 : ∀ w, Env w → Calls Tryz.prog 122 #[.string c, .string t] w fun e w' => e = .returned (.string z2) ∧ Below w.heap.size w w')
    (h3 : ∀ w, Env w → Calls Tryz.prog 112 #[.string t] w fun e w' => e = .returned (.string z6) ∧ Below w.heap.size w w')
    (h4 : ∀ w, Env w → Calls Tryz.prog 122 #[.string s, .string d] w fun e w' => e = .returned (.string m1) ∧ Below w.heap.size w w')
    (h5 : ∀ w, Env w → Calls Tryz.prog 112 #[.string m1] w fun e w' => e = .returned (.string z7) ∧ Below w.heap.size w w')
    (h6 : ∀ w, Env w → Calls Tryz.prog 122 #[.string c, .string d] w fun e w' => e = .returned (.string z8) ∧ Below w.heap.size w w') :
    Calls Tryz.prog 83 #[.agg #[.string h, .string u]] w fun e w' => e = .returned (.agg #[.string d, .string z1, .string z2, .string ⟨#[48]⟩, .string c, .string s, .string z6, .string z7, .string z8]) ∧ Below w.heap.size w w' := by
  have K1 := Lib.hid k1
  have K2 := Lib.hid k2
  have H0 := Lib.hid h0
  have H1 := Lib.hid h1
  have H2 := Lib.hid h2
  have H3 := Lib.hid h3
  have H4 := Lib.hid h4
  have H5 := Lib.hid h5
  have H6 := Lib.hid h6
  have HE := Lib.hid hE
  clear hE k1 k2 h0 h1 h2 h3 h4 h5 h6
  go_enter Tryz.func83, Tryz.ntmps83
  go_wp2_with fail
  generalize hW : (World.alloc w _).alloc _ = W
  obtain ⟨hB, hsz, R1, R2⟩ := A2 hW
  have R1 := Lib.hid R1
  have R2 := Lib.hid R2
  clear hW hsz
  obtain ⟨e0, e1, f0, f1⟩ := row2 R1.out
  go_wp2_with fail
  clear e0 e1 f0 f1
  refine (K1.out _ (HE.out.below hB)).mono ?_
  rintro e w1 ⟨rfl, hb⟩
  replace hB := bstep hB hb
  have R1 := Lib.hid (keep hb R1.out)
  have R2 := Lib.hid (keep hb R2.out)
  clear hb
  obtain ⟨e0, e1, f0, f1⟩ := row2 R1.out
  go_wp2_with fail
  clear e0 e1 f0 f1
  refine (K2.out _ (HE.out.below hB)).mono ?_
  rintro e w2 ⟨rfl, hb⟩
  replace hB := bstep hB hb
  have R2 := Lib.hid (keep hb R2.out)
  clear hb
  go_wp2_with fail
  refine (H0.out _ (HE.out.below hB)).mono ?_
  rintro e w3 ⟨rfl, hb⟩
  replace hB := bstep hB hb
  have R2 := Lib.hid (keep hb R2.out)
  clear hb
  go_wp2_with fail
  refine (H1.out _ (HE.out.below hB)).mono ?_
  rintro e w4 ⟨rfl, hb⟩
  replace hB := bstep hB hb
  have R2 := Lib.hid (keep hb R2.out)
  clear hb
  go_wp2_with fail
  refine (H2.out _ (HE.out.below hB)).mono ?_
  rintro e w5 ⟨rfl, hb⟩
  replace hB := bstep hB hb
  have R2 := Lib.hid (keep hb R2.out)
  clear hb
  go_wp2_with fail
  refine (H3.out _ (HE.out.below hB)).mono ?_
  rintro e w6 ⟨rfl, hb⟩
  replace hB := bstep hB hb
  have R2 := Lib.hid (keep hb R2.out)
  clear hb
  go_wp2_with fail
  refine (H4.out _ (HE.out.below hB)).mono ?_
  rintro e w7 ⟨rfl, hb⟩
  replace hB := bstep hB hb
  have R2 := Lib.hid (keep hb R2.out)
  clear hb
  go_wp2_with fail
  refine (H5.out _ (HE.out.below hB)).mono ?_
  rintro e w8 ⟨rfl, hb⟩
  replace hB := bstep hB hb
  have R2 := Lib.hid (keep hb R2.out)
  clear hb
  go_wp2_with fail
  refine (H6.out _ (HE.out.below hB)).mono ?_
  rintro e w9 ⟨rfl, hb⟩
  replace hB := bstep hB hb
  have R2 := Lib.hid (keep hb R2.out)
  clear hb
  obtain ⟨g0, g1, g2, g3, g4, g5, g6, g7, g8, g9, g10, g11, g12, g13, g14, g15, g16, g17⟩ := row9 R2.out
  go_wp2_with fail
  exact bodyPost_ret (res_c rfl ax9_row rfl (store9 R2.out _ _ _ _ _ _ _ _ _) rfl) rfl ⟨rfl, store9_below hB (by omega) _ _ _ _ _ _ _ _ _⟩

/-- The three unit vectors as the program keeps them. -/
def axW (p q : Rat) : Value := .agg #[.string (rs (axA p q).x), .string (rs (axA p q).y), .string (rs (axA p q).z), .string (rs (axS p).x), .string (rs (axS p).y), .string (rs (axS p).z), .string (rs (axU p q).x), .string (rs (axU p q).y), .string (rs (axU p q).z)]
theorem inR_wi {p q : Rat} (h : inR p q = true) : wiQ p 1 = true ∧ wiQ q 1 = true := by
  unfold inR at h
  rw [Bool.and_eq_true, Bool.and_eq_true] at h
  refine ⟨h.1.1, ?_⟩
  have h1 := h.1.2
  have h2 := h.2
  rw [Bool.not_eq_true', decide_eq_false_iff_not, cmpQ_neg] at h1 h2
  unfold wiQ
  rw [Bool.and_eq_true, Bool.not_eq_true', Bool.not_eq_true', decide_eq_false_iff_not, decide_eq_false_iff_not, cmpQ_neg, cmpQ_neg]
  exact ⟨by grind, by grind⟩
theorem at_axes (p q : Rat) (w : World) (hE : Env w) (hp : Sz 1000 p) (hq : Sz 1000 q) (hi : inR p q = true) :
    Calls Tryz.prog 83 #[.agg #[.string (rs p), .string (rs q)]] w fun e w' => e = .returned (axW p q) ∧ Below w.heap.size w w' := by
  obtain ⟨ip, iq⟩ := inR_wi hi
  have c1 := sz_cosQ hp
  have s1 := sz_sinQ hp
  have c2 := sz_cosQ hq
  have s2 := sz_sinQ hq
  have h := at_axes_aux (rs p) (rs q) (rs (cosQ p)) (rs (sinQ p)) (rs (cosQ q)) (rs (sinQ q)) _ _ _ _ _ _ _ w hE (fun w hE => at_turn p w hE hp ip) (fun w hE => at_turn q w hE hq iq)
    (fun w hE => at_mul _ _ w hE (s1.mono (by decide)) (s2.mono (by decide))) (fun w hE => at_opposite _ w hE ((sz_mul s1 s2).mono (by decide))) (fun w hE => at_mul _ _ w hE (c1.mono (by decide)) (s2.mono (by decide)))
    (fun w hE => at_opposite _ w hE (s2.mono (by decide))) (fun w hE => at_mul _ _ w hE (s1.mono (by decide)) (c2.mono (by decide))) (fun w hE => at_opposite _ w hE ((sz_mul s1 c2).mono (by decide))) (fun w hE => at_mul _ _ w hE (c1.mono (by decide)) (c2.mono (by decide)))
  unfold axW
  rw [show (axS p).x = 0 from rfl, rs_0]
  exact h
end Go.Proofs.YthkkdepppjiaeaaGreatDoor
