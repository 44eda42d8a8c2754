/- A PART OF THE PROOF, JOINED OUT OF 2 TEXTS. -/
import Derived.Test.YthkkdepppjiaeaaGreatDoorQeRef
/- Walks of the references: layer 2 Read, Valid, Small; layer 3 split, Int. -/
namespace Go.Proofs.YthkkdepppjiaeaaGreatDoor
open Go.RowKit Go.Shelf Go.Sort

attribute [local go_sem] Oper.semAt_some

theorem r1_From (n : Nat) (w : World) (hn : nl n ≤ 100000000) :
    Calls Tryz.prog 56 #[.string (nS n)] w fun e w' => ∃ s : Sl, e = .returned (.slice s.A s.n s.c) ∧ RN w' s n ∧ Below w.heap.size w w' := by
  have hz := nS_size n
  refine (re_From (nS n) w (by omega) (by rw [nS_list]; exact decDigits_dig n)).mono ?_
  rintro e w' ⟨v, rfl, h, hb⟩
  rw [nS_list, decDigits_dval] at h
  obtain ⟨s, rfl, hs⟩ := RN.of h.rd
  exact ⟨s, rfl, hs, hb⟩
theorem r1_Small (n : Nat) (w : World) (h : n < 4294967296) :
    Calls Tryz.prog 57 #[.int .u32 (n : Int)] w fun e w' => ∃ s : Sl, e = .returned (.slice s.A s.n s.c) ∧ RN w' s n ∧ Below w.heap.size w w' := by
  refine (re_Small n w (by omega) (by omega)).mono ?_
  rintro e w' ⟨v, rfl, h, hb⟩
  rw [Int.toNat_natCast] at h
  obtain ⟨s, rfl, hs⟩ := RN.of h.rd
  exact ⟨s, rfl, hs, hb⟩

theorem drop1 (s : ByteArray) (c : UInt8) (l : List UInt8) (h : s.data.toList = c :: l) : s.extract 1 s.size = ⟨l.toArray⟩ := by
  apply ByteArray.ext
  apply Array.toList_inj.1
  rw [Lib.extract_data]
  have : s.size = s.data.toList.length := by simp
  rw [this, h]
  simp
theorem at0 (s : ByteArray) (c : UInt8) (l : List UInt8) (h : s.data.toList = c :: l) : ∃ h0 : 0 < s.size, (s[0]'h0) = c := by
  have : s.size = s.data.toList.length := by simp
  refine ⟨by rw [this, h]; simp, ?_⟩
  have e : s.data.toList[0]'(by rw [h]; simp) = s[0]'(by rw [this, h]; simp) := by simp; rfl
  rw [← e]
  simp [h]

set_option maxRecDepth 100000 in
set_option maxHeartbeats 4000000 in
theorem r2_Read (z : Int) (w : World) (hz : nl z.natAbs ≤ 100000000) :
    Calls Tryz.prog 55 #[.string (iS z)] w fun e w' => ∃ s : Sl, e = .returned (zW (sgB z) s) ∧ RN w' s z.natAbs ∧ Below w.heap.size w w' := by
  have hsz := iS_size z
  have hl := iS_list z
  have HF := Lib.hid (fun W => r1_From z.natAbs W hz)
  by_cases h : z < 0
  · rw [if_pos h] at hl
    obtain ⟨h0, h1⟩ := at0 _ _ _ hl
    have h2 := drop1 _ _ _ hl
    have hb : sgB z = true := decide_eq_true h
    rw [hb]
    rw [show (⟨(Lib.decDigits z.natAbs).toArray⟩ : ByteArray) = nS z.natAbs from rfl] at h2
    have e0 : ((((iS z)[0]'h0).toNat : Int) == 45) = true := by rw [h1]; rfl
    have hs9 : (iS z).size ≤ 1000000000 := by omega
    have hs1 : 1 ≤ (iS z).size := h0
    clear hl h1 hb h hz hsz
    generalize iS z = s at *
    generalize nS z.natAbs = t at *
    generalize z.natAbs = k at *
    go_enter Tryz.func55, Tryz.ntmps55
    go_wp2_with fail
    generalize hW : World.alloc w _ = W
    obtain ⟨hB, hsz, R2⟩ := A1 hW
    have R2 := Lib.hid R2
    clear hW hsz
    try rw [h2]
    refine (HF.out _).mono ?_
    rintro e w1 ⟨r, rfl, hr, hb⟩
    have HR := Lib.hid hr
    replace hB := bstep hB hb
    have R2 := Lib.hid (keep hb R2.out)
    clear hb hr
    obtain ⟨R2c0, R2c1, R2f0, R2f1⟩ := row2 R2.out
    go_wp2_with fail
    exact bodyPost_ret (res_c rfl z_row rfl (store2 R2.out _ _) rfl) rfl ⟨_, rfl, HR.out.store2 R2.out, store2_below hB (by omega) _ _⟩
  · rw [if_neg h] at hl
    obtain ⟨c, l, hc⟩ : ∃ c l, Lib.decDigits z.natAbs = c :: l := List.exists_cons_of_ne_nil (decDigits_ne _)
    have hdg := dig_head hc
    rw [hc] at hl
    obtain ⟨h0, h1⟩ := at0 _ _ _ hl
    have hb : sgB z = false := decide_eq_false h
    rw [hb]
    have e0 : ((((iS z)[0]'h0).toNat : Int) == 45) = false := by
      rw [h1, beq_eq_false_iff_ne]
      unfold isDig at hdg
      omega
    have hs9 : (iS z).size ≤ 1000000000 := by omega
    have hs1 : 1 ≤ (iS z).size := h0
    rw [iS_nonneg (z := z) (by omega)] at HF
    clear hl h1 hb h hz hsz hdg hc
    generalize iS z = s at *
    generalize z.natAbs = k at *
    go_enter Tryz.func55, Tryz.ntmps55
    go_wp2_with fail
    generalize hW : World.alloc w _ = W
    obtain ⟨hB, hsz, R2⟩ := A1 hW
    have R2 := Lib.hid R2
    clear hW hsz
    refine (HF.out _).mono ?_
    rintro e w1 ⟨r, rfl, hr, hb⟩
    have HR := Lib.hid hr
    replace hB := bstep hB hb
    have R2 := Lib.hid (keep hb R2.out)
    clear hb hr
    obtain ⟨R2c0, R2c1, R2f0, R2f1⟩ := row2 R2.out
    go_wp2_with fail
    exact bodyPost_ret (res_c rfl z_row rfl (store2 R2.out _ _) rfl) rfl ⟨_, rfl, HR.out.store2 R2.out, store2_below hB (by omega) _ _⟩

theorem ivB_minus (s : ByteArray) (l : List UInt8) (h : s.data.toList = 45 :: l) : ivB s = (vnB l && !(l == [48])) := by
  unfold ivB
  rw [h]
  have h1 : Lib.hasPrefix (45 :: l) [45] = true := by simp [Lib.hasPrefix, List.isPrefixOf]
  have h2 : Lib.trimPrefix (45 :: l) [45] = l := by unfold Lib.trimPrefix; rw [h1]; simp
  rw [h1, h2, Bool.true_and]
theorem ivB_plain (s : ByteArray) (h : ∀ l, s.data.toList ≠ 45 :: l) : ivB s = vnB s.data.toList := by
  unfold ivB
  have h1 : Lib.hasPrefix s.data.toList [45] = false := by
    cases hl : s.data.toList with
    | nil => rfl
    | cons c l =>
      have : ¬ (45 : UInt8) = c := fun e => h l (by rw [hl, e])
      simp [Lib.hasPrefix, List.isPrefixOf, this]
  have h2 : Lib.trimPrefix s.data.toList [45] = s.data.toList := by unfold Lib.trimPrefix; rw [h1]; simp
  rw [h1, h2]; simp

set_option maxRecDepth 100000 in
set_option maxHeartbeats 4000000 in
theorem r2_Valid (s : ByteArray) (w : World) (hs : s.size ≤ 100000000) :
    Calls Tryz.prog 52 #[.string s] w fun e w' => e = .returned (.bool (ivB s)) ∧ w' = w := by
  by_cases hm : ∃ c r, s.data.toList = 45 :: c :: r
  · obtain ⟨c, r, hl⟩ := hm
    have hz : s.size = (45 :: c :: r).length := by rw [← hl]; simp
    obtain ⟨h0, h1⟩ := at0 _ _ _ hl
    have h2 := drop1 _ _ _ hl
    rw [ivB_minus s _ hl]
    have e0 : (((s[0]'h0).toNat : Int) == 45) = true := by rw [h1]; rfl
    have hv := re_Valid ⟨(c :: r).toArray⟩ w (by
      show (c :: r).toArray.size ≤ _
      unfold maxLen
      simp at hz ⊢; omega)
    rw [show (⟨(c :: r).toArray⟩ : ByteArray).data.toList = c :: r from rfl, ← h2] at hv
    have HV := Lib.hid hv
    have hq : (s.toList == [45, 48]) = ((c :: r) == [48]) := by
      rw [ByteArray.toList_eq, hl]; simp
    have h3 : 1 < s.size := by rw [hz]; simp
    generalize ((c :: r) == [48]) = qb at *
    generalize vnB (c :: r) = vb at *
    clear hl h1 h2 hz hv
    cases qb
    · go_enter Tryz.func52, Tryz.ntmps52
      go_wp2_with fail
      refine HV.out.mono ?_
      rintro e w1 ⟨rfl, rfl⟩
      go_wp2_with fail
      go_ret
      exact ⟨by simp, rfl⟩
    · go_enter Tryz.func52, Tryz.ntmps52
      go_wp2_with fail
      go_ret
      exact ⟨by simp, rfl⟩
  · have hv := re_Valid s w (by unfold maxLen; omega)
    have hi : ivB s = vnB s.data.toList := by
      by_cases h45 : s.data.toList = [45]
      · rw [ivB_minus s [] h45, h45]; rfl
      · exact ivB_plain s (fun l hl => by
          cases l with
          | nil => exact h45 hl
          | cons c r => exact hm ⟨c, r, hl⟩)
    rw [hi]
    by_cases h3 : 1 < s.size
    · have e0 : (((s[0]'(by omega)).toNat : Int) == 45) = false := by
        rw [beq_eq_false_iff_ne]
        intro e
        match hl : s.data.toList with
        | [] => have : s.size = s.data.toList.length := by simp
                rw [hl] at this; rw [this] at h3; exact absurd h3 (by simp)
        | [c] => have : s.size = s.data.toList.length := by simp
                 rw [hl] at this; rw [this] at h3; exact absurd h3 (by simp)
        | c :: d :: r =>
          obtain ⟨h0, h1⟩ := at0 _ _ _ hl
          rw [h1] at e
          have : c = 45 := by
            apply UInt8.toNat.inj
            show c.toNat = 45
            omega
          exact hm ⟨d, r, by rw [hl, this]⟩
      have HV := Lib.hid hv
      clear hv hi hm
      generalize vnB s.data.toList = vb at *
      go_enter Tryz.func52, Tryz.ntmps52
      go_wp2_with fail
      refine HV.out.mono ?_
      rintro e w1 ⟨rfl, rfl⟩
      go_wp2_with fail
      go_ret
      exact ⟨rfl, rfl⟩
    · have HV := Lib.hid hv
      clear hv hi hm
      generalize vnB s.data.toList = vb at *
      go_enter Tryz.func52, Tryz.ntmps52
      go_wp2_with fail
      refine HV.out.mono ?_
      rintro e w1 ⟨rfl, rfl⟩
      go_wp2_with fail
      go_ret
      exact ⟨rfl, rfl⟩
end Go.Proofs.YthkkdepppjiaeaaGreatDoor

/- Walks of the reference of layer 3: lowest, To, Sign, Int, Neg, Inv. -/
namespace Go.Proofs.YthkkdepppjiaeaaGreatDoor
open Go.RowKit Go.Shelf Go.Sort

attribute [local go_sem] Oper.semAt_some

/-- A fraction as the reference keeps it. -/
@[reducible] def qW (b : Bool) (p d : Sl) : Value := .agg #[.bool b, .slice p.A p.n p.c, .slice d.A d.n d.c]
/-- The slices hold numerator and denominator. -/
structure RQ (w : World) (p d : Sl) (x : Rat) : Prop where
  num : RN w p x.num.natAbs
  den : RN w d x.den
theorem RQ.below {w w' : World} {p d : Sl} {x : Rat} (h : RQ w p d x) (hb : Below w.heap.size w w') : RQ w' p d x := ⟨h.num.below hb, h.den.below hb⟩
theorem q_row : RowTy Tryz.prog 45 3 := rowTy_struct Tryz.underlying45 (by kernel_rfl)
theorem RN.store3 {w : World} {s : Sl} {n g : Nat} {a b : Bool} {y z v u : Value} {t : TypeId} (h : RN w s n) (hg : w.heap[g]? = some (.cells #[.bool a, y, z] t (0, 0))) :
    RN (((w.setCell ⟨g, 0, none⟩ (.bool b)).setCell ⟨g, 1, none⟩ v).setCell ⟨g, 2, none⟩ u) s n := by
  have h1 := (row3 hg).1
  have h2 : (w.setCell ⟨g, 0, none⟩ (.bool b)).cell? ⟨g, 0, none⟩ = some (.bool b) := World.cell?_setCell_same w ⟨g, 0, none⟩ _ h1
  refine ((h.set h1).set h2).set (x := b) ?_
  rw [World.cell?_setCell_other _ ⟨g, 1, none⟩ ⟨g, 0, none⟩ v (by intro e; injection e with _ e2; exact absurd e2 (by decide))]; exact h2
theorem RQ.store3 {w : World} {p d : Sl} {x : Rat} {g : Nat} {a b : Bool} {y z v u : Value} {t : TypeId} (h : RQ w p d x) (hg : w.heap[g]? = some (.cells #[.bool a, y, z] t (0, 0))) :
    RQ (((w.setCell ⟨g, 0, none⟩ (.bool b)).setCell ⟨g, 1, none⟩ v).setCell ⟨g, 2, none⟩ u) p d x := ⟨h.num.store3 hg, h.den.store3 hg⟩
theorem rat_eta {x : Rat} {p : Int} {q : Nat} (h1 : x.num = p) (h2 : x.den = q) {w : World} {s t : Sl} (hs : RN w s p.natAbs) (ht : RN w t q) : RQ w s t x := by
  subst h1 h2; exact ⟨hs, ht⟩

/-! ### lowest -/
theorem low_one {p : Int} {q : Nat} (hq : q ≠ 0) (hg : Nat.gcd p.natAbs q = 1) : (mkRat p q).num = p ∧ (mkRat p q).den = q := by
  obtain ⟨e1, e2⟩ := low_num p q hq
  rw [hg] at e1 e2
  exact ⟨by rw [e1]; simp, by rw [e2]; simp⟩
theorem low_abs {p : Int} {q : Nat} (hq : q ≠ 0) : (mkRat p q).num.natAbs = p.natAbs / Nat.gcd p.natAbs q ∧ (if sgB p = true then -((p.natAbs / Nat.gcd p.natAbs q : Nat) : Int) else (p.natAbs / Nat.gcd p.natAbs q : Nat)) = (mkRat p q).num := by
  obtain ⟨e1, _⟩ := low_num p q hq
  have hd : ((Nat.gcd p.natAbs q : Nat) : Int) ∣ p := Int.ofNat_dvd_left.2 (Nat.gcd_dvd_left _ _)
  obtain ⟨c, hc⟩ := hd
  have hg : 0 < Nat.gcd p.natAbs q := Nat.gcd_pos_of_pos_right _ (by omega)
  generalize Nat.gcd p.natAbs q = g at *
  have e2 : p / (g : Int) = c := by rw [hc]; exact Int.mul_ediv_cancel_left _ (by omega)
  rw [e2] at e1
  have e3 : p.natAbs / g = c.natAbs := by
    rw [hc, Int.natAbs_mul, Int.natAbs_natCast, Nat.mul_div_cancel_left _ hg]
  rw [e1, e3]
  refine ⟨rfl, ?_⟩
  unfold sgB
  have hs : p < 0 ↔ c < 0 := by
    rw [hc]
    constructor
    · intro h
      rcases Int.lt_or_le c 0 with h2 | h2
      · exact h2
      · have := Int.mul_nonneg (show (0 : Int) ≤ g by omega) h2; omega
    · intro h
      exact Int.mul_neg_of_pos_of_neg (by omega) h
  by_cases h : p < 0
  · have := hs.1 h
    rw [if_pos (decide_eq_true h)]; omega
  · have : ¬ c < 0 := fun k => h (hs.2 k)
    rw [if_neg (by rw [decide_eq_false h]; decide)]; omega

set_option maxRecDepth 100000 in
set_option maxHeartbeats 4000000 in
theorem r3_lowest_one (p : Int) (q : Nat) (s t : Sl) (w : World) (hs : RN w s p.natAbs) (ht : RN w t q) (hp : nl p.natAbs ≤ 100000000) (hq : nl q ≤ 100000000) (h0 : q ≠ 0) (hg : Nat.gcd p.natAbs q = 1) :
    Calls Tryz.prog 65 #[zW (sgB p) s, .slice t.A t.n t.c] w fun e w' => ∃ a d : Sl, e = .returned (qW (sgB (mkRat p q).num) a d) ∧ RQ w' a d (mkRat p q) ∧ Below w.heap.size w w' := by
  obtain ⟨e1, e2⟩ := low_one h0 hg
  have hC := fun W (hb : Below w.heap.size w W) => n_Common s t _ _ W (hs.below hb) (ht.below hb) hp hq
  rw [hg] at hC
  have HC := Lib.hid hC
  clear hC
  have HS := Lib.hid (fun W (hb : Below w.heap.size w W) => hs.below hb)
  have HT := Lib.hid (fun W (hb : Below w.heap.size w W) => ht.below hb)
  have HE := Lib.hid (And.intro e1 e2)
  rw [e1]
  clear hs ht hp hq h0 hg e1 e2
  generalize sgB p = b at *
  go_enter Tryz.func65, Tryz.ntmps65
  go_wp2_with fail
  generalize hW : (World.alloc w _).alloc _ = W
  obtain ⟨hB, hsz, R2, R4⟩ := A2 hW
  have R2 := Lib.hid R2
  have R4 := Lib.hid R4
  clear hW hsz
  refine (HC.out _ hB).mono ?_
  rintro e w1 ⟨⟨gA, gn, gc⟩, rfl, hr, hb⟩
  replace hB := bstep hB hb
  have R2 := Lib.hid (keep hb R2.out)
  have R4 := Lib.hid (keep hb R4.out)
  clear hb
  have hlen := hr.len
  rw [show (ws 1).length = 1 by rw [ws_pos (by decide), ws_zero]; rfl] at hlen
  simp only at hlen
  subst hlen
  obtain ⟨A', c', e1, e2, e3, e4⟩ := hr
  obtain ⟨gb, hgb, hcell⟩ := e4.at_ (by rw [show (ws 1).length = 1 by rw [ws_pos (by decide), ws_zero]; rfl]; decide)
  have hc0 := hcell 0 (by rw [show (ws 1).length = 1 by rw [ws_pos (by decide), ws_zero]; rfl]; decide)
  rw [(ws_one (m := 1) (by rw [ws_pos (by decide), ws_zero]; rfl)).1] at hc0
  simp only [Value.slice.injEq] at e1
  obtain ⟨rfl, -, rfl⟩ := e1
  subst hgb
  clear e2 e3 e4 hcell
  obtain ⟨c1, c2, c3, c4⟩ := row2 R2.out
  obtain ⟨d1, d2, d3, d4, d5, d6⟩ := row3 R4.out
  go_wp2_with fail
  exact bodyPost_ret (res_c rfl q_row rfl (store3 R4.out _ _ _) rfl) rfl ⟨_, _, rfl, (rat_eta HE.out.1 HE.out.2 (HS.out _ hB) (HT.out _ hB)).store3 R4.out, store3_below hB (by omega) _ _ _⟩

set_option maxRecDepth 100000 in
set_option maxHeartbeats 4000000 in
theorem r3_lowest_more (p : Int) (q : Nat) (s t : Sl) (w : World) (hs : RN w s p.natAbs) (ht : RN w t q) (hp : nl p.natAbs ≤ 100000000) (hq : nl q ≤ 100000000) (h0 : q ≠ 0) (hg : Nat.gcd p.natAbs q ≠ 1) :
    Calls Tryz.prog 65 #[zW (sgB p) s, .slice t.A t.n t.c] w fun e w' => ∃ a d : Sl, e = .returned (qW (sgB (mkRat p q).num) a d) ∧ RQ w' a d (mkRat p q) ∧ Below w.heap.size w w' := by
  obtain ⟨e1, e1b⟩ := low_abs (p := p) h0
  obtain ⟨_, e2⟩ := low_num p q h0
  have hgp : 0 < Nat.gcd p.natAbs q := Nat.gcd_pos_of_pos_right _ (by omega)
  have HC := Lib.hid (fun W (hb : Below w.heap.size w W) => n_Common s t _ _ W (hs.below hb) (ht.below hb) hp hq)
  have HO1 := Lib.hid (fun W (hb : Below w.heap.size w W) r (hr : RN W r (Nat.gcd p.natAbs q)) => n_Over s r _ _ W (hs.below hb) hr hp hgp)
  have HO2 := Lib.hid (fun W (hb : Below w.heap.size w W) r (hr : RN W r (Nat.gcd p.natAbs q)) => n_Over t r _ _ W (ht.below hb) hr hq hgp)
  have HM := Lib.hid (r2_MakeS e1b)
  have HE := Lib.hid (And.intro e1 e2)
  clear hs ht hp hq h0 e1 e2 e1b
  generalize Nat.gcd p.natAbs q = g at *
  generalize sgB (mkRat p q).num = bz at *
  generalize sgB p = b at *
  go_enter Tryz.func65, Tryz.ntmps65
  go_wp2_with fail
  generalize hW : (World.alloc w _).alloc _ = W
  obtain ⟨hB, hsz, R2, R4⟩ := A2 hW
  have R2 := Lib.hid R2
  have R4 := Lib.hid R4
  clear hW hsz
  refine (HC.out _ hB).mono ?_
  rintro e w1 ⟨⟨gA, gn, gc⟩, rfl, hr, hb⟩
  have HR := Lib.hid hr
  replace hB := bstep hB hb
  have R2 := Lib.hid (keep hb R2.out)
  have R4 := Lib.hid (keep hb R4.out)
  clear hb
  have hlen := hr.len
  have hle := hr.le
  simp only at hlen hle
  have rest : ∀ (K : Prop), ((gn = 1 → ∃ gb, gA = some ⟨gb, 0, none⟩ ∧ w1.cell? ⟨gb, 0, none⟩ = some (.int .u32 (g : Int))) → K) → K := by
    intro K hk
    refine hk (fun h1 => ?_)
    rw [hlen] at h1
    obtain ⟨A', c', e1, e2, e3, e4⟩ := hr
    obtain ⟨gb, hgb, hcell⟩ := e4.at_ (by omega)
    have hc0 := hcell 0 (by omega)
    rw [(ws_one h1).1] at hc0
    simp only [Value.slice.injEq] at e1
    exact ⟨gb, e1.1.trans hgb, hc0⟩
  refine rest _ (fun hcell => ?_)
  clear rest hr
  obtain ⟨c1, c2, c3, c4⟩ := row2 R2.out
  by_cases hn1 : gn = 1
  · obtain ⟨gb, rfl, hc0⟩ := hcell hn1
    have hne : ((g : Int) == 1) = false := by rw [beq_eq_false_iff_ne]; omega
    subst hn1
    clear hcell hlen
    go_wp2_with fail
    refine (HO1.out _ hB _ HR.out).mono ?_
    rintro e w2 ⟨u, v, rfl, hu, hb⟩
    have HU := Lib.hid hu
    have HR := Lib.hid (HR.out.below hb)
    replace hB := bstep hB hb
    have R2 := Lib.hid (keep hb R2.out)
    have R4 := Lib.hid (keep hb R4.out)
    clear hb hu c1 c2 c3 c4 hc0
    go_wp2_with fail
    refine (HO2.out _ hB _ HR.out).mono ?_
    rintro e w3 ⟨x, y, rfl, hx, hb⟩
    have HX := Lib.hid hx
    have HU := Lib.hid (HU.out.below hb)
    replace hB := bstep hB hb
    have R2 := Lib.hid (keep hb R2.out)
    have R4 := Lib.hid (keep hb R4.out)
    clear hb hx
    obtain ⟨c1, c2, c3, c4⟩ := row2 R2.out
    go_wp2_with fail
    refine (HM.out _ _ HU.out).mono ?_
    rintro e w4 ⟨rfl, hb⟩
    have HX := Lib.hid (HX.out.below hb)
    have HU := Lib.hid (HU.out.below hb)
    replace hB := bstep hB hb
    have R4 := Lib.hid (keep hb R4.out)
    clear hb c1 c2 c3 c4
    obtain ⟨d1, d2, d3, d4, d5, d6⟩ := row3 R4.out
    go_wp2_with fail
    exact bodyPost_ret (res_c rfl q_row rfl (store3 R4.out _ _ _) rfl) rfl ⟨_, _, rfl, (RQ.mk (by rw [HE.out.1]; exact HU.out) (by rw [HE.out.2]; exact HX.out)).store3 R4.out, store3_below hB (by omega) _ _ _⟩
  · have hd : ((gn : Int) == 1) = false := by rw [beq_eq_false_iff_ne]; omega
    clear hcell hlen hn1
    go_wp2_with fail
    refine (HO1.out _ hB _ HR.out).mono ?_
    rintro e w2 ⟨u, v, rfl, hu, hb⟩
    have HU := Lib.hid hu
    have HR := Lib.hid (HR.out.below hb)
    replace hB := bstep hB hb
    have R2 := Lib.hid (keep hb R2.out)
    have R4 := Lib.hid (keep hb R4.out)
    clear hb hu c1 c2 c3 c4
    go_wp2_with fail
    refine (HO2.out _ hB _ HR.out).mono ?_
    rintro e w3 ⟨x, y, rfl, hx, hb⟩
    have HX := Lib.hid hx
    have HU := Lib.hid (HU.out.below hb)
    replace hB := bstep hB hb
    have R2 := Lib.hid (keep hb R2.out)
    have R4 := Lib.hid (keep hb R4.out)
    clear hb hx
    obtain ⟨c1, c2, c3, c4⟩ := row2 R2.out
    go_wp2_with fail
    refine (HM.out _ _ HU.out).mono ?_
    rintro e w4 ⟨rfl, hb⟩
    have HX := Lib.hid (HX.out.below hb)
    have HU := Lib.hid (HU.out.below hb)
    replace hB := bstep hB hb
    have R4 := Lib.hid (keep hb R4.out)
    clear hb c1 c2 c3 c4
    obtain ⟨d1, d2, d3, d4, d5, d6⟩ := row3 R4.out
    go_wp2_with fail
    exact bodyPost_ret (res_c rfl q_row rfl (store3 R4.out _ _ _) rfl) rfl ⟨_, _, rfl, (RQ.mk (by rw [HE.out.1]; exact HU.out) (by rw [HE.out.2]; exact HX.out)).store3 R4.out, store3_below hB (by omega) _ _ _⟩

theorem r3_lowest (p : Int) (q : Nat) (s t : Sl) (w : World) (hs : RN w s p.natAbs) (ht : RN w t q) (hp : nl p.natAbs ≤ 100000000) (hq : nl q ≤ 100000000) (h0 : q ≠ 0) :
    Calls Tryz.prog 65 #[zW (sgB p) s, .slice t.A t.n t.c] w fun e w' => ∃ a d : Sl, e = .returned (qW (sgB (mkRat p q).num) a d) ∧ RQ w' a d (mkRat p q) ∧ Below w.heap.size w w' := by
  by_cases hg : Nat.gcd p.natAbs q = 1
  · exact r3_lowest_one p q s t w hs ht hp hq h0 hg
  · exact r3_lowest_more p q s t w hs ht hp hq h0 hg
end Go.Proofs.YthkkdepppjiaeaaGreatDoor
