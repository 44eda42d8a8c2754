/- A PART OF THE PROOF, JOINED OUT OF 3 TEXTS. -/
import Derived.Test.YthkkdepppjiaeaaGreatDoorPhInteger
import Derived.Lib.IndexMore
import Derived.Lib.ParseIntBTie
/- Rational numbers as texts (plain). -/
namespace Go.Proofs.YthkkdepppjiaeaaGreatDoor

/-- The text of a rational number. -/
def rs (x : Rat) : ByteArray := if x.den = 1 then iS x.num else iS x.num ++ ⟨#[47]⟩ ++ nS x.den
/-- A rational number as the program keeps it. -/
def fV (x : Rat) : Value := .agg #[.string (iS x.num), .string (nS x.den)]

theorem nS_one (n : Nat) : ((nS n).toList == [49]) = decide (n = 1) := by
  rw [ByteArray.toList_eq, nS_list]
  by_cases h : n = 1
  · subst h
    rw [show Lib.decDigits 1 = [49] by rw [Lib.decDigits]; rfl]; rfl
  · have : Lib.decDigits n ≠ [49] := by
      intro e
      rw [show [49] = Lib.decDigits 1 by rw [Lib.decDigits]; rfl] at e
      exact h (decDigits_inj e)
    rw [decide_eq_false h]
    exact beq_eq_false_iff_ne.2 this
theorem nS_1 : nS 1 = ⟨#[49]⟩ := by
  unfold nS; rw [show Lib.decDigits 1 = [49] by rw [Lib.decDigits]; rfl]
theorem iS_zero (z : Int) : ((iS z).toList == [48]) = decide (z = 0) := by
  rw [ByteArray.toList_eq, iS_list]
  by_cases h : z < 0
  · rw [if_pos h, decide_eq_false (by omega)]; simp
  · rw [if_neg h, dig_zero]; congr 1; exact propext (by omega)

/-! ### cut at a slash -/
theorem index_one (c : UInt8) : ∀ (l : List UInt8), c ∉ l → Lib.index l [c] = -1
  | [], _ => rfl
  | b :: l, h => by
    have hb : ¬ c = b := by intro e; exact h (by rw [e]; simp)
    have := index_one c l (fun hm => h (List.mem_cons_of_mem _ hm))
    unfold Lib.index
    simp [List.isPrefixOf, hb, this]
theorem index_at (c : UInt8) : ∀ (a b : List UInt8), c ∉ a → Lib.index (a ++ c :: b) [c] = a.length
  | [], b, _ => by simp [Lib.index, List.isPrefixOf]
  | x :: a, b, h => by
    have hb : ¬ c = x := by intro e; exact h (by rw [e]; simp)
    have ih := index_at c a b (fun hm => h (List.mem_cons_of_mem _ hm))
    rw [List.cons_append]
    unfold Lib.index
    have hne : ((a.length : Int) == -1) = false := by rw [beq_eq_false_iff_ne]; omega
    simp only [List.isPrefixOf, ih, hne]
    simp [hb]
theorem cut_none (c : UInt8) (l : List UInt8) (h : c ∉ l) : Lib.cut l [c] = (l, [], false) := by
  unfold Lib.cut; rw [index_one c l h]; rfl
theorem cut_at (c : UInt8) (a b : List UInt8) (h : c ∉ a) : Lib.cut (a ++ c :: b) [c] = (a, b, true) := by
  unfold Lib.cut
  rw [index_at c a b h, if_pos (by omega)]
  simp
theorem split_mem (c : UInt8) (l : List UInt8) (h : c ∈ l) : ∃ a b, l = a ++ c :: b ∧ c ∉ a := by
  induction l with
  | nil => cases h
  | cons x l ih =>
    by_cases e : c = x
    · exact ⟨[], l, by rw [e]; rfl, by simp⟩
    · obtain ⟨a, b, h1, h2⟩ := ih (by simpa [e] using h)
      exact ⟨x :: a, b, by rw [h1]; rfl, by simp [e, h2]⟩
theorem dig_no (n : Nat) : (47 : UInt8) ∉ Lib.decDigits n := fun h => by
  have := decDigits_dig n 47 h
  exact absurd this (by unfold isDig; decide)
theorem iS_no (z : Int) : (47 : UInt8) ∉ (iS z).data.toList := by
  rw [iS_list]
  split
  · simp [dig_no]
  · exact dig_no _
theorem rs_list (x : Rat) : (rs x).data.toList = if x.den = 1 then (iS x.num).data.toList else (iS x.num).data.toList ++ 47 :: Lib.decDigits x.den := by
  unfold rs
  split
  · rfl
  · rw [ByteArray.data_append, ByteArray.data_append]; simp [nS]
theorem rs_cut (x : Rat) : Lib.cut (rs x).data.toList [47] = if x.den = 1 then ((iS x.num).data.toList, [], false) else ((iS x.num).data.toList, Lib.decDigits x.den, true) := by
  rw [rs_list]
  split
  · exact cut_none _ _ (iS_no _)
  · exact cut_at _ _ _ (iS_no _)

theorem rs_inj {x y : Rat} (h : rs x = rs y) : x = y := by
  have h1 := rs_cut x
  rw [h, rs_cut y] at h1
  have hn : x.num = y.num ∧ x.den = y.den := by
    by_cases hx : x.den = 1 <;> by_cases hy : y.den = 1
    · rw [if_pos hx, if_pos hy] at h1
      injection h1 with a b
      exact ⟨(iS_inj (ByteArray.ext (Array.toList_inj.1 a))).symm, by omega⟩
    · rw [if_pos hx, if_neg hy] at h1
      simp at h1
    · rw [if_neg hx, if_pos hy] at h1
      simp at h1
    · rw [if_neg hx, if_neg hy] at h1
      injection h1 with a b
      injection b with b c
      exact ⟨(iS_inj (ByteArray.ext (Array.toList_inj.1 a))).symm, (decDigits_inj b).symm⟩
  exact Rat.ext hn.1 hn.2

/-- The text of a number of which numerator and denominator are known. -/
theorem rat_of (p : Int) (q : Nat) (hq : q ≠ 0) (hc : Nat.gcd p.natAbs q = 1) : ∃ x : Rat, x.num = p ∧ x.den = q := ⟨⟨p, q, hq, hc⟩, rfl, rfl⟩

/-! ### few digits -/
theorem parseUintM_few (M : Nat) (hM : 1000000000 ≤ M) : ∀ (l : List UInt8) (acc : Nat), (∀ c ∈ l, isDig c) → dvalA acc l ≤ 1000000000 → Lib.parseUintM M acc l = .ok (dvalA acc l)
  | [], acc, _, _ => rfl
  | c :: r, acc, h, hb => by
    have hc := h c List.mem_cons_self
    have hmono : acc * 10 + dgv c ≤ dvalA (acc * 10 + dgv c) r := by
      rw [dvalA_eq]
      have := Nat.mul_le_mul_left (acc * 10 + dgv c) (Nat.one_le_pow r.length 10 (by decide))
      omega
    simp only [dvalA] at hb
    unfold isDig at hc
    simp only [Lib.parseUintM]
    have e := dgv_eq c
    rw [if_pos hc, if_neg (by omega), ← e, if_neg (by omega)]
    exact parseUintM_few M hM r _ (fun x hx => h x (List.mem_cons_of_mem _ hx)) hb
theorem parseUint_few (n : Nat) (h : n < 1000000000) : Lib.parseUintB 64 (Lib.decDigits n) = .ok n := by
  unfold Lib.parseUintB
  rw [if_neg (decDigits_ne n)]
  have hv : dvalA 0 (Lib.decDigits n) = n := decDigits_dval n
  rw [parseUintM_few _ (by decide) _ 0 (decDigits_dig n) (by omega), hv]
theorem parseInt_few (z : Int) (h : z.natAbs < 1000000000) : Lib.parseIntB 64 (iS z).data.toList = .ok z := by
  rw [iS_list]
  by_cases hz : z < 0
  · rw [if_pos hz, Lib.parseIntB_minus, parseUint_few _ h]
    unfold Lib.signedC
    simp only
    rw [if_neg (by have : (2 : Nat) ^ (64 - 1) = 9223372036854775808 := by decide
                   omega)]
    congr 1; omega
  · rw [if_neg hz]
    cases hd : Lib.decDigits z.natAbs with
    | nil => exact absurd hd (decDigits_ne _)
    | cons c r =>
      have hdg := dig_head hd
      unfold isDig at hdg
      rw [Lib.parseIntB_plain 64 c r (by omega) (by omega), ← hd, parseUint_few _ h]
      unfold Lib.signlessC
      simp only
      rw [if_neg (by have : (2 : Nat) ^ (64 - 1) = 9223372036854775808 := by decide
                     omega)]
      congr 1; omega
theorem itoa_iS (z : Int) : (⟨(Lib.itoa z).toArray⟩ : ByteArray) = iS z := by
  apply ByteArray.ext
  apply Array.toList_inj.1
  rw [iS_list]
  unfold Lib.itoa
  split
  · rfl
  · rw [show z.toNat = z.natAbs by omega]

/-! ### sizes -/
/-- Numerator and denominator have at most k digits. -/
def Sz (k : Nat) (x : Rat) : Prop := nl x.num.natAbs ≤ k ∧ nl x.den ≤ k
theorem Sz.mono {j k : Nat} {x : Rat} (h : Sz j x) (hk : j ≤ k) : Sz k x := ⟨Nat.le_trans h.1 hk, Nat.le_trans h.2 hk⟩

/-- In lowest terms. -/
theorem low_num (p : Int) (q : Nat) (hq : q ≠ 0) : (mkRat p q).num = p / (Nat.gcd p.natAbs q : Nat) ∧ (mkRat p q).den = q / Nat.gcd p.natAbs q := by
  rw [Rat.mkRat_def, dif_neg hq]
  exact ⟨by rw [Rat.normalize_eq], by rw [Rat.normalize_eq]⟩
theorem nl_quot (a b : Nat) : nl (a / b) ≤ nl a := nl_mono (Nat.div_le_self a b)
theorem sz_mk {p : Int} {q k : Nat} (hq : q ≠ 0) (h1 : nl p.natAbs ≤ k) (h2 : nl q ≤ k) : Sz k (mkRat p q) := by
  obtain ⟨e1, e2⟩ := low_num p q hq
  refine ⟨?_, ?_⟩
  · rw [e1]
    have hd : ((Nat.gcd p.natAbs q : Nat) : Int) ∣ p := Int.ofNat_dvd_left.2 (Nat.gcd_dvd_left _ _)
    obtain ⟨c, hc⟩ := hd
    have hg : 0 < Nat.gcd p.natAbs q := Nat.gcd_pos_of_pos_right _ (by omega)
    generalize Nat.gcd p.natAbs q = g at *
    have : p / (g : Int) = c := by rw [hc]; exact Int.mul_ediv_cancel_left _ (by omega)
    rw [this]
    refine Nat.le_trans (nl_mono ?_) h1
    rw [hc, Int.natAbs_mul, Int.natAbs_natCast]
    exact Nat.le_mul_of_pos_left _ hg
  · rw [e2]; exact Nat.le_trans (nl_quot _ _) h2
theorem sz_add {x y : Rat} {a b : Nat} (hx : Sz a x) (hy : Sz b y) : Sz (2 * (a + b)) (x + y) := by
  rw [Rat.add_def']
  have h1 := nl_mul x.num.natAbs y.den
  have h2 := nl_mul y.num.natAbs x.den
  have h3 := nl_mul x.den y.den
  have h4 := nl_add (x.num.natAbs * y.den) (y.num.natAbs * x.den)
  obtain ⟨a1, a2⟩ := hx
  obtain ⟨b1, b2⟩ := hy
  refine sz_mk (Nat.mul_ne_zero x.den_nz y.den_nz) ?_ (by omega)
  refine Nat.le_trans (nl_mono (n := x.num.natAbs * y.den + y.num.natAbs * x.den) ?_) (by omega)
  have := Int.natAbs_add_le (x.num * y.den) (y.num * x.den)
  rw [Int.natAbs_mul, Int.natAbs_mul] at this
  simpa using this
theorem sz_mul {x y : Rat} {a b : Nat} (hx : Sz a x) (hy : Sz b y) : Sz (a + b) (x * y) := by
  rw [Rat.mul_def']
  have h1 := nl_mul x.num.natAbs y.num.natAbs
  have h3 := nl_mul x.den y.den
  obtain ⟨a1, a2⟩ := hx
  obtain ⟨b1, b2⟩ := hy
  refine sz_mk (Nat.mul_ne_zero x.den_nz y.den_nz) ?_ (by omega)
  rw [Int.natAbs_mul]; omega
theorem sz_neg {x : Rat} {a : Nat} (hx : Sz a x) : Sz a (-x) := by
  unfold Sz at hx ⊢
  rw [Rat.neg_num, Rat.neg_den, Int.natAbs_neg]; exact hx
theorem sz_sub {x y : Rat} {a b : Nat} (hx : Sz a x) (hy : Sz b y) : Sz (2 * (a + b)) (x - y) := by
  rw [Rat.sub_eq_add_neg]; exact sz_add hx (sz_neg hy)
end Go.Proofs.YthkkdepppjiaeaaGreatDoor

/- Walks of the program's package rational: text, divisor, read, Valid. -/
namespace Go.Proofs.YthkkdepppjiaeaaGreatDoor
open Go.RowKit Go.Shelf Go.Sort

attribute [local go_sem] Oper.semAt_some

theorem frac_row : RowTy Tryz.prog 202 2 := rowTy_struct Tryz.underlying202 (by kernel_rfl)

theorem rs_one {x : Rat} (h : x.den = 1) : rs x = iS x.num := by unfold rs; rw [if_pos h]
theorem rs_frac {x : Rat} (h : x.den ≠ 1) : rs x = iS x.num ++ ⟨#[47]⟩ ++ nS x.den := by unfold rs; rw [if_neg h]

set_option maxHeartbeats 2000000 in
theorem ra_text (x : Rat) (w : World) (hx : Sz 40000000 x) :
    Calls Tryz.prog 204 #[fV x] w fun e w' => e = .returned (.string (rs x)) ∧ Below w.heap.size w w' := by
  have h1 := nS_one x.den
  have s1 := iS_size x.num
  have s2 := nS_size x.den
  obtain ⟨a1, a2⟩ := hx
  have hn1 : ¬ 9223372036854775807 < (iS x.num).size + 1 := by omega
  have hn2 : ¬ 9223372036854775807 < (iS x.num).size + 1 + (nS x.den).size := by omega
  unfold fV
  by_cases hd : x.den = 1
  · rw [rs_one hd]
    rw [decide_eq_true hd] at h1
    clear s1 s2 a1 a2 hd hn1 hn2
    go_enter Tryz.func204, Tryz.ntmps204
    go_wp2_with fail
    go_ret
    exact ⟨rfl, (A1 rfl).1⟩
  · rw [rs_frac hd]
    rw [decide_eq_false hd] at h1
    clear s1 s2 a1 a2 hd
    go_enter Tryz.func204, Tryz.ntmps204
    go_wp2_with fail
    go_ret
    exact ⟨rfl, (A1 rfl).1⟩

set_option maxHeartbeats 2000000 in
theorem ra_divisor (p : Int) (q : Nat) (w : World) (hE : Env w) (hp : nl p.natAbs ≤ 30000000) (hq : nl q ≤ 30000000) :
    Calls Tryz.prog 171 #[.string (iS p), .string (nS q)] w fun e w' => e = .returned (.string (nS (Nat.gcd p.natAbs q))) ∧ Below w.heap.size w w' := by
  have HA := Lib.hid (fun w => in_Abs p w (by omega))
  have HG := Lib.hid (fun w hE => na_GCD p.natAbs q w hE (by omega) (by omega))
  have HE := Lib.hid hE
  clear hE hp hq
  go_enter Tryz.func171, Tryz.ntmps171
  go_wp2_with fail
  refine (HA.out _).mono ?_
  rintro e w1 ⟨rfl, hB⟩
  go_wp2_with fail
  refine (HG.out _ (HE.out.below hB)).mono ?_
  rintro e w2 ⟨rfl, hb⟩
  replace hB := bstep hB hb
  clear hb
  go_wp2_with fail
  go_ret
  exact ⟨rfl, hB⟩

/-- Is a string a number's text? -/
noncomputable def rvB (s : ByteArray) : Bool := @decide (∃ x, s = rs x) (Classical.propDecidable _)
theorem rvB_iff (s : ByteArray) : rvB s = true ↔ ∃ x, s = rs x := by unfold rvB; exact @decide_eq_true_iff _ (Classical.propDecidable _)
theorem rvB_rs (x : Rat) : rvB (rs x) = true := (rvB_iff _).2 ⟨x, rfl⟩

theorem drewN_below (w : World) (n : Nat) : Below w.heap.size w (w.drewN n) := ⟨rfl, rfl, rfl, Nat.le_refl _, fun _ _ => rfl⟩

set_option maxRecDepth 100000 in
set_option maxHeartbeats 4000000 in
/-- Without a slash. -/
theorem ra_read_whole (s : ByteArray) (w : World) (hE : Env w) (hs : s.size ≤ 100000000) (h : (47 : UInt8) ∉ s.data.toList) :
    Calls Tryz.prog 144 #[.string s] w fun e w' => e = .returned (.tuple #[.agg #[.string s, .string ⟨#[49]⟩], .bool (ivB s)]) ∧ Below w.heap.size w w' := by
  have hc := fun w (hE : Env w) => Tryz.strings_Cut_shaped s ⟨#[47]⟩ w hE.shape (by omega)
  rw [show (⟨#[47]⟩ : ByteArray).data.toList = [47] from rfl, cut_none 47 _ h] at hc
  rw [show (⟨s.data.toList.toArray⟩ : ByteArray) = s from by cases s; simp] at hc
  have HC := Lib.hid hc
  have HV := Lib.hid (fun w => in_Valid s w hs)
  have HE := Lib.hid hE
  clear hc h hs hE
  go_enter Tryz.func144, Tryz.ntmps144
  go_wp2_with fail
  generalize hW : World.alloc w _ = W
  obtain ⟨hB, hsz, R2⟩ := A1 hW
  have R2 := Lib.hid R2
  clear hW hsz
  refine (HC.out _ (HE.out.below hB)).mono ?_
  rintro e w1 ⟨rfl, n, rfl⟩
  have hb := drewN_below W n
  generalize W.drewN n = V at *
  replace hB := bstep hB hb
  have R2 := Lib.hid (keep hb R2.out)
  clear hb
  go_wp2_with fail
  refine (HV.out _).mono ?_
  rintro e w2 ⟨rfl, hb⟩
  replace hB := bstep hB hb
  have R2 := Lib.hid (keep hb R2.out)
  clear hb
  obtain ⟨R2c0, R2c1, R2f0, R2f1⟩ := row2 R2.out
  go_wp2_with fail
  exact bodyPost_ret (res_ct rfl frac_row rfl (store2 R2.out _ _) rfl) rfl ⟨rfl, store2_below hB (Nat.le_refl _) _ _⟩

set_option maxRecDepth 100000 in
set_option maxHeartbeats 8000000 in
/-- With a slash. -/
theorem ra_read_slash (s p q g : ByteArray) (c1 c2 c3 c4 c5 c6 : Bool) (w : World) (hE : Env w) (hs : s.size ≤ 100000000) (hq : q.size ≤ maxLen)
    (hct : Lib.cut s.data.toList [47] = (p.data.toList, q.data.toList, true))
    (h1 : ∀ w, Calls Tryz.prog 169 #[.string p] w fun e w' => e = .returned (.bool c1) ∧ Below w.heap.size w w')
    (h2 : (p.toList == [48]) = c2) (h3 : vnB q.data.toList = c3) (h4 : (q.toList == [48]) = c4) (h5 : (q.toList == [49]) = c5)
    (h6 : c1 = true → c2 = false → c3 = true → c4 = false → c5 = false → (∀ w, Env w → Calls Tryz.prog 171 #[.string p, .string q] w fun e w' => e = .returned (.string g) ∧ Below w.heap.size w w') ∧ (g.toList == [49]) = c6) :
    Calls Tryz.prog 144 #[.string s] w fun e w' => e = .returned (.tuple #[.agg #[.string p, .string q], .bool (c1 && !c2 && c3 && !c4 && !c5 && c6)]) ∧ Below w.heap.size w w' := by
  have hc := fun w (hE : Env w) => Tryz.strings_Cut_shaped s ⟨#[47]⟩ w hE.shape (by omega)
  rw [show (⟨#[47]⟩ : ByteArray).data.toList = [47] from rfl, hct] at hc
  rw [show (⟨p.data.toList.toArray⟩ : ByteArray) = p from by cases p; simp, show (⟨q.data.toList.toArray⟩ : ByteArray) = q from by cases q; simp] at hc
  have HC := Lib.hid hc
  have H1 := Lib.hid h1
  have hV := fun w => na_valid q w hq
  rw [h3] at hV
  have HV := Lib.hid hV
  have H6 := Lib.hid h6
  have HE := Lib.hid hE
  clear hct hc h1 hs hE hV h3 h6 hq
  go_enter Tryz.func144, Tryz.ntmps144
  go_wp2_with fail
  generalize hW : World.alloc w _ = W
  obtain ⟨hB, hsz, R2⟩ := A1 hW
  have R2 := Lib.hid R2
  clear hW hsz
  refine (HC.out _ (HE.out.below hB)).mono ?_
  rintro e w1 ⟨rfl, n, rfl⟩
  have hb := drewN_below W n
  generalize W.drewN n = V at *
  replace hB := bstep hB hb
  have R2 := Lib.hid (keep hb R2.out)
  clear hb
  go_wp2_with fail
  refine (H1.out _).mono ?_
  rintro e w2 ⟨rfl, hb⟩
  replace hB := bstep hB hb
  have R2 := Lib.hid (keep hb R2.out)
  clear hb
  cases c1
  · clear h2 h4 h5 H6 HV
    obtain ⟨R2c0, R2c1, R2f0, R2f1⟩ := row2 R2.out
    go_wp2_with fail
    exact bodyPost_ret (res_ct rfl frac_row rfl (store2 R2.out _ _) rfl) rfl ⟨rfl, store2_below hB (Nat.le_refl _) _ _⟩
  cases c2
  rotate_left
  · clear h4 h5 H6 HV
    obtain ⟨R2c0, R2c1, R2f0, R2f1⟩ := row2 R2.out
    go_wp2_with fail
    exact bodyPost_ret (res_ct rfl frac_row rfl (store2 R2.out _ _) rfl) rfl ⟨rfl, store2_below hB (Nat.le_refl _) _ _⟩
  go_wp2_with fail
  refine (HV.out _).mono ?_
  rintro e w' ⟨rfl, rfl⟩
  cases c3
  · clear h4 h5 H6 HV
    obtain ⟨R2c0, R2c1, R2f0, R2f1⟩ := row2 R2.out
    go_wp2_with fail
    exact bodyPost_ret (res_ct rfl frac_row rfl (store2 R2.out _ _) rfl) rfl ⟨rfl, store2_below hB (Nat.le_refl _) _ _⟩
  cases c4
  rotate_left
  · clear h5 H6 HV
    obtain ⟨R2c0, R2c1, R2f0, R2f1⟩ := row2 R2.out
    go_wp2_with fail
    exact bodyPost_ret (res_ct rfl frac_row rfl (store2 R2.out _ _) rfl) rfl ⟨rfl, store2_below hB (Nat.le_refl _) _ _⟩
  cases c5
  rotate_left
  · clear H6 HV
    obtain ⟨R2c0, R2c1, R2f0, R2f1⟩ := row2 R2.out
    go_wp2_with fail
    exact bodyPost_ret (res_ct rfl frac_row rfl (store2 R2.out _ _) rfl) rfl ⟨rfl, store2_below hB (Nat.le_refl _) _ _⟩
  obtain ⟨h6, h7⟩ := H6.out (by trivial) (by trivial) (by trivial) (by trivial) (by trivial)
  have HG := Lib.hid h6
  clear h6 H6
  go_wp2_with fail
  refine (HG.out _ (HE.out.below hB)).mono ?_
  rintro e w3 ⟨rfl, hb⟩
  replace hB := bstep hB hb
  have R2 := Lib.hid (keep hb R2.out)
  clear hb
  obtain ⟨R2c0, R2c1, R2f0, R2f1⟩ := row2 R2.out
  cases c6
  all_goals
    go_wp2_with fail
    exact bodyPost_ret (res_ct rfl frac_row rfl (store2 R2.out _ _) rfl) rfl ⟨rfl, store2_below hB (Nat.le_refl _) _ _⟩

/-- read at a number's text. -/
theorem ra_read (x : Rat) (w : World) (hE : Env w) (hx : Sz 20000000 x) :
    Calls Tryz.prog 144 #[.string (rs x)] w fun e w' => e = .returned (.tuple #[fV x, .bool true]) ∧ Below w.heap.size w w' := by
  obtain ⟨a1, a2⟩ := hx
  have s1 := iS_size x.num
  have s2 := nS_size x.den
  by_cases hd : x.den = 1
  · have h := ra_read_whole (rs x) w hE (by rw [rs_one hd]; omega) (by rw [rs_one hd]; exact iS_no _)
    rw [rs_one hd, ivB_iS] at h
    rw [rs_one hd]
    unfold fV
    rw [hd, nS_1]
    exact h
  · have hcut := rs_cut x
    rw [if_neg hd] at hcut
    have hn0 : x.num ≠ 0 := by
      intro e
      have := x.reduced
      rw [e] at this
      exact hd (by simpa [Nat.Coprime] using this)
    have h := ra_read_slash (rs x) (iS x.num) (nS x.den) (nS (Nat.gcd x.num.natAbs x.den)) true false true false false true w hE
      (by rw [rs_frac hd, ByteArray.size_append, ByteArray.size_append]; have : (⟨#[47]⟩ : ByteArray).size = 1 := rfl; omega) (by unfold maxLen; omega) hcut
      (fun w => by have := in_Valid (iS x.num) w (by omega); rwa [ivB_iS] at this)
      (by rw [iS_zero, decide_eq_false hn0]) (by rw [nS_list]; exact (vnB_iff _).2 (decDigits_valid _)) (by rw [nS_zero, decide_eq_false x.den_nz]) (by rw [nS_one, decide_eq_false hd])
      (fun _ _ _ _ _ => ⟨fun w hE => ra_divisor x.num x.den w hE (by omega) (by omega), by rw [nS_one, show Nat.gcd x.num.natAbs x.den = 1 from x.reduced]; rfl⟩)
    exact h

/-- read at whatever string: what it says of validity is right. -/
theorem ra_read_any (s : ByteArray) (w : World) (hE : Env w) (hs : s.size ≤ 10000000) :
    Calls Tryz.prog 144 #[.string s] w fun e w' => ∃ p q, e = .returned (.tuple #[.agg #[.string p, .string q], .bool (rvB s)]) ∧ Below w.heap.size w w' := by
  have hl : s.data.toList.length = s.size := by simp
  by_cases hm : (47 : UInt8) ∈ s.data.toList
  · obtain ⟨a, b, hab, ha⟩ := split_mem 47 _ hm
    have hcut := cut_at 47 a b ha
    rw [← hab] at hcut
    have hla : a.length + b.length + 1 = s.size := by rw [← hl, hab]; simp; omega
    obtain ⟨p, hp⟩ : ∃ p : ByteArray, p = ⟨a.toArray⟩ := ⟨_, rfl⟩
    obtain ⟨q, hq⟩ : ∃ q : ByteArray, q = ⟨b.toArray⟩ := ⟨_, rfl⟩
    have hpl : p.data.toList = a := by rw [hp]
    have hql : q.data.toList = b := by rw [hq]
    have hps : p.size = a.length := by rw [hp]; rfl
    have hqs : q.size = b.length := by rw [hq]; rfl
    rw [← hpl, ← hql] at hcut
    obtain ⟨g, c6, h6⟩ : ∃ g c6, (ivB p = true → (p.toList == [48]) = false → vnB q.data.toList = true → (q.toList == [48]) = false → (q.toList == [49]) = false →
        ((∀ w, Env w → Calls Tryz.prog 171 #[.string p, .string q] w fun e w' => e = .returned (.string g) ∧ Below w.heap.size w w') ∧ (g.toList == [49]) = c6)) ∧
        (ivB p && !(p.toList == [48]) && vnB q.data.toList && !(q.toList == [48]) && !(q.toList == [49]) && c6) = rvB s := by
      by_cases hall : ivB p = true ∧ (p.toList == [48]) = false ∧ vnB q.data.toList = true ∧ (q.toList == [48]) = false ∧ (q.toList == [49]) = false
      · obtain ⟨e1, e2, e3, e4, e5⟩ := hall
        obtain ⟨z, hz⟩ := (ivB_iff p).1 e1
        have hd := nS_of_valid e3
        obtain ⟨d, hdd⟩ : ∃ d, d = dval q.data.toList := ⟨_, rfl⟩
        rw [← hdd] at hd
        have hzl : nl z.natAbs ≤ p.size := by
          rw [hz]
          show _ ≤ (iS z).data.size
          rw [← Array.length_toList, iS_list]; unfold nl; split <;> simp
        have hdl : nl d = q.size := by rw [hd]; rfl
        refine ⟨nS (Nat.gcd z.natAbs d), decide (Nat.gcd z.natAbs d = 1), fun _ _ _ _ _ => ⟨fun w hE => ?_, nS_one _⟩, ?_⟩
        · rw [hz, hd]; exact ra_divisor z d w hE (by omega) (by omega)
        · rw [e1, e2, e3, e4, e5]
          simp only [Bool.not_false, Bool.and_true, Bool.true_and]
          rw [hz, iS_zero] at e2
          rw [hd, nS_zero] at e4
          rw [hd, nS_one] at e5
          have f2 : z ≠ 0 := by simpa using e2
          have f4 : d ≠ 0 := by simpa using e4
          have f5 : d ≠ 1 := by simpa using e5
          have hs2 : s = iS z ++ ⟨#[47]⟩ ++ nS d := by
            apply ByteArray.ext
            apply Array.toList_inj.1
            rw [ByteArray.data_append, ByteArray.data_append, hab, ← hpl, ← hql, hz, hd]; simp
          by_cases hg : Nat.gcd z.natAbs d = 1
          · rw [decide_eq_true hg]
            obtain ⟨x, hx1, hx2⟩ := rat_of z d f4 hg
            refine ((rvB_iff s).2 ⟨x, ?_⟩).symm
            rw [rs_frac (by rw [hx2]; exact f5), hx1, hx2]; exact hs2
          · rw [decide_eq_false hg]
            cases hr : rvB s with
            | false => rfl
            | true =>
              exfalso
              obtain ⟨x, hx⟩ := (rvB_iff s).1 hr
              have hc2 := rs_cut x
              rw [← hx, hcut] at hc2
              by_cases hxd : x.den = 1
              · rw [if_pos hxd] at hc2; simp at hc2
              · rw [if_neg hxd, hz, hd, nS_list] at hc2
                injection hc2 with k1 k2
                injection k2 with k2 k3
                have m1 := iS_inj (ByteArray.ext (Array.toList_inj.1 k1))
                have m2 := decDigits_inj k2
                apply hg
                rw [m1, m2]; exact x.reduced
      · refine ⟨⟨#[]⟩, false, fun e1 e2 e3 e4 e5 => absurd ⟨e1, e2, e3, e4, e5⟩ hall, ?_⟩
        simp only [Bool.and_false]
        cases hr : rvB s with
        | false => rfl
        | true =>
          exfalso
          obtain ⟨x, hx⟩ := (rvB_iff s).1 hr
          have hc2 := rs_cut x
          rw [← hx, hcut] at hc2
          by_cases hxd : x.den = 1
          · rw [if_pos hxd] at hc2; simp at hc2
          · rw [if_neg hxd] at hc2
            injection hc2 with k1 k2
            injection k2 with k2 k3
            have m1 : p = iS x.num := ByteArray.ext (Array.toList_inj.1 k1)
            have m2 : q = nS x.den := ByteArray.ext (Array.toList_inj.1 k2)
            have hn0 : x.num ≠ 0 := by
              intro e
              have := x.reduced
              rw [e] at this
              exact hxd (by simpa [Nat.Coprime] using this)
            apply hall
            rw [m1, m2]
            exact ⟨ivB_iS _, by rw [iS_zero, decide_eq_false hn0], by rw [nS_list]; exact (vnB_iff _).2 (decDigits_valid _), by rw [nS_zero, decide_eq_false x.den_nz], by rw [nS_one, decide_eq_false hxd]⟩
    have h := ra_read_slash s p q g _ _ _ _ _ c6 w hE (by omega) (by unfold maxLen; omega) hcut (fun w => in_Valid p w (by omega)) rfl rfl rfl rfl h6.1
    rw [h6.2] at h
    exact h.mono fun _ _ ⟨a, b⟩ => ⟨p, q, a, b⟩
  · have h := ra_read_whole s w hE (by omega) hm
    have e : ivB s = rvB s := by
      rw [Bool.eq_iff_iff, ivB_iff, rvB_iff]
      constructor
      · rintro ⟨z, hz⟩
        exact ⟨(z : Rat), by rw [rs_one (Rat.den_intCast z), Rat.num_intCast]; exact hz⟩
      · rintro ⟨x, hx⟩
        by_cases hd : x.den = 1
        · exact ⟨x.num, by rw [hx, rs_one hd]⟩
        · exfalso
          apply hm
          rw [hx, rs_list, if_neg hd]; simp
    rw [e] at h
    exact h.mono fun _ _ ⟨a, b⟩ => ⟨_, _, a, b⟩

set_option maxHeartbeats 2000000 in
theorem ra_Valid (s : ByteArray) (w : World) (hE : Env w) (hs : s.size ≤ 10000000) :
    Calls Tryz.prog 102 #[.string s] w fun e w' => e = .returned (.bool (rvB s)) ∧ Below w.heap.size w w' := by
  have HR := Lib.hid (ra_read_any s w hE hs)
  clear hs hE
  generalize rvB s = ok at *
  go_enter Tryz.func102, Tryz.ntmps102
  go_wp2_with fail
  refine HR.out.mono ?_
  rintro e w1 ⟨p, q, rfl, hb1⟩
  go_wp2_with fail
  go_ret
  exact ⟨rfl, bstep hb1 (A1 rfl).1⟩
end Go.Proofs.YthkkdepppjiaeaaGreatDoor

/- Walks of the program's package rational: lowest, little, opposite, inverse, sign. -/
namespace Go.Proofs.YthkkdepppjiaeaaGreatDoor
open Go.RowKit Go.Shelf Go.Sort

attribute [local go_sem] Oper.semAt_some

theorem iS_nat (n : Nat) : iS (n : Int) = nS n := by
  unfold iS; rw [if_neg (by omega), Int.natAbs_natCast]

set_option maxRecDepth 100000 in
set_option maxHeartbeats 4000000 in
theorem ra_lowest (p : Int) (q : Nat) (w : World) (hE : Env w) (hp : nl p.natAbs ≤ 20000000) (hq : nl q ≤ 20000000) (h0 : q ≠ 0) :
    Calls Tryz.prog 269 #[.string (iS p), .string (nS q)] w fun e w' => e = .returned (fV (mkRat p q)) ∧ Below w.heap.size w w' := by
  obtain ⟨e1, e2⟩ := low_num p q h0
  unfold fV
  rw [e1, e2]
  have HD := Lib.hid (fun w hE => ra_divisor p q w hE (by omega) (by omega))
  have hg : 0 < Nat.gcd p.natAbs q := Nat.gcd_pos_of_pos_right _ (by omega)
  have hgq : nl (Nat.gcd p.natAbs q) ≤ nl q := nl_mono (Nat.gcd_le_right _ (by omega))
  have h1 := nS_one (Nat.gcd p.natAbs q)
  have HM := Lib.hid (fun w hE => in_DivMod p (Nat.gcd p.natAbs q) w hE (by omega) (by rw [Int.natAbs_natCast]; omega) (by omega))
  have HN := Lib.hid (fun w hE => na_DivMod q (Nat.gcd p.natAbs q) w hE (by omega) (by omega) hg)
  have HE := Lib.hid hE
  rw [iS_nat] at HM
  clear e1 e2 hgq hE hp hq h0
  generalize Nat.gcd p.natAbs q = g at *
  by_cases hg1 : g = 1
  · rw [decide_eq_true hg1] at h1
    have k1 : iS (p / (g : Int)) = iS p := by rw [hg1]; simp
    have k2 : nS (q / g) = nS q := by rw [hg1]; simp
    rw [k1, k2]
    clear k1 k2 hg1 hg HM HN
    go_enter Tryz.func269, Tryz.ntmps269
    go_wp2_with fail
    generalize hW : World.alloc w _ = W
    obtain ⟨hB, hsz, R4⟩ := A1 hW
    have R4 := Lib.hid R4
    clear hW hsz
    refine (HD.out _ (HE.out.below hB)).mono ?_
    rintro e w1 ⟨rfl, hb⟩
    replace hB := bstep hB hb
    have R4 := Lib.hid (keep hb R4.out)
    clear hb
    obtain ⟨R4c0, R4c1, R4f0, R4f1⟩ := row2 R4.out
    go_wp2_with fail
    exact bodyPost_ret (res_c rfl frac_row rfl (store2 R4.out _ _) rfl) rfl ⟨rfl, store2_below hB (Nat.le_refl _) _ _⟩
  · rw [decide_eq_false hg1] at h1
    generalize p / (g : Int) = p' at *
    generalize p % (g : Int) = p'' at *
    generalize q / g = q' at *
    generalize q % g = q'' at *
    clear hg1 hg
    go_enter Tryz.func269, Tryz.ntmps269
    go_wp2_with fail
    generalize hW : World.alloc w _ = W
    obtain ⟨hB, hsz, R4⟩ := A1 hW
    have R4 := Lib.hid R4
    clear hW hsz
    refine (HD.out _ (HE.out.below hB)).mono ?_
    rintro e w1 ⟨rfl, hb⟩
    replace hB := bstep hB hb
    have R4 := Lib.hid (keep hb R4.out)
    clear hb
    go_wp2_with fail
    refine (HM.out _ (HE.out.below hB)).mono ?_
    rintro e w2 ⟨rfl, hb⟩
    replace hB := bstep hB hb
    have R4 := Lib.hid (keep hb R4.out)
    clear hb
    go_wp2_with fail
    refine (HN.out _ (HE.out.below hB)).mono ?_
    rintro e w3 ⟨rfl, hb⟩
    replace hB := bstep hB hb
    have R4 := Lib.hid (keep hb R4.out)
    clear hb
    obtain ⟨R4c0, R4c1, R4f0, R4f1⟩ := row2 R4.out
    go_wp2_with fail
    exact bodyPost_ret (res_c rfl frac_row rfl (store2 R4.out _ _) rfl) rfl ⟨rfl, store2_below hB (Nat.le_refl _) _ _⟩

set_option maxRecDepth 100000 in
set_option maxHeartbeats 4000000 in
theorem ra_opposite (x : Rat) (w : World) (hx : Sz 30000000 x) :
    Calls Tryz.prog 252 #[fV x] w fun e w' => e = .returned (fV (-x)) ∧ Below w.heap.size w w' := by
  unfold fV
  rw [Rat.neg_num, Rat.neg_den]
  have HN := Lib.hid (fun w => in_Neg x.num w (by have := hx.1; omega))
  clear hx
  generalize -x.num = m at *
  go_enter Tryz.func252, Tryz.ntmps252
  go_wp2_with fail
  generalize hW : (World.alloc w _).alloc _ = W
  obtain ⟨hB, hsz, R1, R2⟩ := A2 hW
  have R1 := Lib.hid R1
  have R2 := Lib.hid R2
  clear hW hsz
  refine (HN.out _).mono ?_
  rintro e w1 ⟨rfl, hb⟩
  replace hB := bstep hB hb
  have R1 := Lib.hid (keep hb R1.out)
  have R2 := Lib.hid (keep hb R2.out)
  clear hb
  obtain ⟨R1c0, R1c1, R1f0, R1f1⟩ := row2 R1.out
  obtain ⟨R2c0, R2c1, R2f0, R2f1⟩ := row2 R2.out
  go_wp2_with fail
  exact bodyPost_ret (res_c rfl frac_row rfl (store2 R2.out _ _) rfl) rfl ⟨rfl, store2_below hB (by omega) _ _⟩

theorem rat_inv_pos {x : Rat} (h : 0 < x.num) : (x⁻¹).num = x.den ∧ (x⁻¹).den = x.num.natAbs := by
  rw [Rat.num_inv, Rat.den_inv, if_neg (by omega), Int.sign_eq_one_of_pos h]; simp
theorem rat_inv_neg {x : Rat} (h : x.num < 0) : (x⁻¹).num = -(x.den : Int) ∧ (x⁻¹).den = x.num.natAbs := by
  rw [Rat.num_inv, Rat.den_inv, if_neg (by omega), Int.sign_eq_neg_one_of_neg h]; simp

set_option maxRecDepth 100000 in
set_option maxHeartbeats 4000000 in
theorem ra_inverse (x : Rat) (w : World) (hx : Sz 30000000 x) (h0 : x ≠ 0) :
    Calls Tryz.prog 254 #[fV x] w fun e w' => e = .returned (fV x⁻¹) ∧ Below w.heap.size w w' := by
  have hn0 : x.num ≠ 0 := fun e => h0 (Rat.num_eq_zero.1 e)
  have s1 := iS_size x.num
  have s2 := nS_size x.den
  obtain ⟨a1, a2⟩ := hx
  have hn1 : ¬ 9223372036854775807 < 1 + (nS x.den).size := by omega
  have hcp : ∀ w, _ := fun w => Tryz.strings_CutPrefix (iS x.num) ⟨#[45]⟩ w
  rw [show (⟨#[45]⟩ : ByteArray).data.toList = [45] from rfl, iS_pre, iS_trim] at hcp
  rw [show (⟨(Lib.decDigits x.num.natAbs).toArray⟩ : ByteArray) = nS x.num.natAbs from rfl] at hcp
  unfold fV
  rcases Int.lt_or_le x.num 0 with h | h
  · rw [decide_eq_true h] at hcp
    obtain ⟨e1, e2⟩ := rat_inv_neg h
    have e3 : (⟨#[45]⟩ : ByteArray) ++ nS x.den = iS (-(x.den : Int)) := by
      have := iS_neg (z := -(x.den : Int)) (by have := x.den_nz; omega)
      rwa [show (-(x.den : Int)).natAbs = x.den by omega] at this
    rw [e1, e2, ← e3]
    have HC := Lib.hid hcp
    clear hcp e1 e2 e3 s1 s2 a1 a2 h hn0 h0
    go_enter Tryz.func254, Tryz.ntmps254
    go_wp2_with fail
    generalize hW : (World.alloc w _).alloc _ = W
    obtain ⟨hB, hsz, R1, R2⟩ := A2 hW
    have R1 := Lib.hid R1
    have R2 := Lib.hid R2
    clear hW hsz
    refine (HC.out _).mono ?_
    rintro e w1 ⟨rfl, rfl⟩
    obtain ⟨R1c0, R1c1, R1f0, R1f1⟩ := row2 R1.out
    obtain ⟨R2c0, R2c1, R2f0, R2f1⟩ := row2 R2.out
    go_wp2_with fail
    exact bodyPost_ret (res_c rfl frac_row rfl (store2 R2.out _ _) rfl) rfl ⟨rfl, store2_below hB (by omega) _ _⟩
  · rw [decide_eq_false (by omega)] at hcp
    obtain ⟨e1, e2⟩ := rat_inv_pos (x := x) (by omega)
    have e3 : iS x.num = nS x.num.natAbs := (iS_nonneg h).symm
    rw [e1, e2, iS_nat, ← e3]
    have HC := Lib.hid hcp
    clear hcp e1 e2 e3 s1 s2 a1 a2 h hn0 h0
    go_enter Tryz.func254, Tryz.ntmps254
    go_wp2_with fail
    generalize hW : (World.alloc w _).alloc _ = W
    obtain ⟨hB, hsz, R1, R2⟩ := A2 hW
    have R1 := Lib.hid R1
    have R2 := Lib.hid R2
    clear hW hsz
    refine (HC.out _).mono ?_
    rintro e w1 ⟨rfl, rfl⟩
    obtain ⟨R1c0, R1c1, R1f0, R1f1⟩ := row2 R1.out
    obtain ⟨R2c0, R2c1, R2f0, R2f1⟩ := row2 R2.out
    go_wp2_with fail
    exact bodyPost_ret (res_c rfl frac_row rfl (store2 R2.out _ _) rfl) rfl ⟨rfl, store2_below hB (by omega) _ _⟩

set_option maxHeartbeats 2000000 in
theorem ra_sign (x : Rat) (w : World) (hx : Sz 30000000 x) :
    Calls Tryz.prog 139 #[fV x] w fun e w' => e = .returned (.int .i64 x.num.sign) ∧ Below w.heap.size w w' := by
  have HS := Lib.hid (fun w => in_Sign x.num w (by have := hx.1; omega))
  clear hx
  unfold fV
  go_enter Tryz.func139, Tryz.ntmps139
  go_wp2_with fail
  refine (HS.out _).mono ?_
  rintro e w1 ⟨rfl, hb⟩
  go_wp2_with fail
  go_ret
  exact ⟨rfl, bstep (A1 rfl).1 hb⟩

theorem few_of {n : Nat} (h : nl n ≤ 9) : n < 1000000000 := (nl_le (by decide)).1 h
theorem parse_nat (n : Nat) (h : n < 1000000000) : Lib.parseIntB 64 (nS n).data.toList = .ok (n : Int) := by
  rw [← iS_nat]; exact parseInt_few n (by omega)

set_option maxHeartbeats 4000000 in
theorem ra_little_yes (x : Rat) (w : World) (h1 : (iS x.num).size ≤ 9) (h2 : (nS x.den).size ≤ 9) :
    Calls Tryz.prog 266 #[fV x] w fun e w' => e = .returned (.tuple #[.int .i64 x.num, .int .i64 x.den, .bool true]) ∧ Below w.heap.size w w' := by
  have l1 : nl x.num.natAbs ≤ (iS x.num).size := by
    show _ ≤ (iS x.num).data.size
    rw [← Array.length_toList, iS_list]; unfold nl; split <;> simp
  have l2 : nl x.den ≤ 9 := by rw [← nS_size]; exact h2
  have H1 := Lib.hid (fun w => Tryz.strconv_ParseInt_10_at64_ok (iS x.num) (by omega) _ (parseInt_few x.num (few_of (by omega))) w)
  have H2 := Lib.hid (fun w => Tryz.strconv_ParseInt_10_at64_ok (nS x.den) (by omega) _ (parse_nat x.den (few_of l2)) w)
  clear l1 l2
  unfold fV
  go_enter Tryz.func266, Tryz.ntmps266
  go_wp2_with fail
  generalize hW : World.alloc w _ = W
  obtain ⟨hB, hsz, R1⟩ := A1 hW
  have R1 := Lib.hid R1
  clear hW hsz
  refine (H1.out _).mono ?_
  rintro e w1 ⟨rfl, hw⟩
  have hb : Below W.heap.size W w1 := by
    rcases hw with rfl | ⟨t, rfl⟩
    · exact Below.refl _ _
    · exact Joins.below_bytesWorld _ _ _ _ (Nat.le_refl _)
  clear hw
  replace hB := bstep hB hb
  have R1 := Lib.hid (keep hb R1.out)
  clear hb
  obtain ⟨R1c0, R1c1, R1f0, R1f1⟩ := row2 R1.out
  go_wp2_with fail
  refine (H2.out _).mono ?_
  rintro e w2 ⟨rfl, hw⟩
  have hb : Below w1.heap.size w1 w2 := by
    rcases hw with rfl | ⟨t, rfl⟩
    · exact Below.refl _ _
    · exact Joins.below_bytesWorld _ _ _ _ (Nat.le_refl _)
  clear hw
  replace hB := bstep hB hb
  clear hb
  go_wp2_with fail
  exact bodyPost_ret (results_tmp3 rfl _ _ _) rfl ⟨rfl, hB⟩

set_option maxHeartbeats 4000000 in
theorem ra_little_no (x : Rat) (w : World) (h : ¬ ((iS x.num).size ≤ 9 ∧ (nS x.den).size ≤ 9)) :
    Calls Tryz.prog 266 #[fV x] w fun e w' => e = .returned (.tuple #[.int .i64 0, .int .i64 0, .bool false]) ∧ Below w.heap.size w w' := by
  unfold fV
  by_cases h1 : (iS x.num).size ≤ 9
  · have h2 : ¬ (nS x.den).size ≤ 9 := fun h2 => h ⟨h1, h2⟩
    clear h
    go_enter Tryz.func266, Tryz.ntmps266
    go_wp2_with fail
    exact bodyPost_ret (results_tmp3 rfl _ _ _) rfl ⟨rfl, (A1 rfl).1⟩
  · clear h
    go_enter Tryz.func266, Tryz.ntmps266
    go_wp2_with fail
    exact bodyPost_ret (results_tmp3 rfl _ _ _) rfl ⟨rfl, (A1 rfl).1⟩
end Go.Proofs.YthkkdepppjiaeaaGreatDoor
