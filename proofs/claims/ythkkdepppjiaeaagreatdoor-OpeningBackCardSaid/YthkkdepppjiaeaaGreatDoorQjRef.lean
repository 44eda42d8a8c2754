/- A PART OF THE PROOF, JOINED OUT OF 2 TEXTS. -/
import Derived.Test.YthkkdepppjiaeaaGreatDoorQiRef
import Derived.Test.YthkkdepppjiaeaaGreatDoorPnLaw
/- Walks of the reference of layer 3: split, From. -/
namespace Go.Proofs.YthkkdepppjiaeaaGreatDoor
open Go.RowKit Go.Shelf Go.Sort

attribute [local go_sem] Oper.semAt_some

theorem byte_at (s : ByteArray) (l : List UInt8) (hl : s.data.toList = l) (k : Nat) (h : k < s.size) : ∃ hk : k < l.length, s[k]'h = l[k]'hk := by
  subst hl
  refine ⟨by simpa using h, ?_⟩
  simp; rfl

set_option maxHeartbeats 4000000 in
theorem r3_split_none (s : ByteArray) (w : World) (hs : s.size ≤ 100000000) (h : (47 : UInt8) ∉ s.data.toList) :
    Calls Tryz.prog 51 #[.string s] w fun e w' => e = .returned (.tuple #[.string s, .string ⟨#[49]⟩, .bool false]) ∧ Below w.heap.size w w' := by
  have HN : Hid (∀ k (hk : k < s.size), (((s[k]'hk).toNat : Int) == 47) = false) := Lib.hid (fun k hk => by
    rw [beq_eq_false_iff_ne]
    intro e
    obtain ⟨h1, h2⟩ := byte_at s _ rfl k hk
    have : s[k]'hk = 47 := by
      apply UInt8.toNat.inj
      show (s[k]'hk).toNat = 47
      omega
    rw [h2] at this
    exact h (this ▸ List.getElem_mem h1))
  clear h
  go_enter Tryz.func51, Tryz.ntmps51
  go_wp2
  go_loop [5] (fun x => ∃ k : Nat, k ≤ s.size ∧ x = .int .i64 k) (fun x => s.size - (intOf x).toNat)
  case atStart => exact ⟨0, Nat.zero_le _, rfl⟩
  case round =>
    obtain ⟨k, hk, rfl⟩ := hrel
    by_cases hlt : k < s.size
    · have e0 := HN.out k hlt
      go_wp2
      go_round
      case rel => exact ⟨k + 1, by omega, by go_num⟩
      case measure => simp [intOf]; omega
    · go_wp2
      go_ret3
      exact ⟨rfl, Below.refl _ _⟩

set_option maxHeartbeats 4000000 in
theorem r3_split_at (s : ByteArray) (a b : List UInt8) (w : World) (hs : s.size ≤ 100000000) (h : s.data.toList = a ++ 47 :: b) (ha : (47 : UInt8) ∉ a) :
    Calls Tryz.prog 51 #[.string s] w fun e w' => e = .returned (.tuple #[.string ⟨a.toArray⟩, .string ⟨b.toArray⟩, .bool true]) ∧ Below w.heap.size w w' := by
  have hsz : s.size = a.length + 1 + b.length := by
    have : s.size = s.data.toList.length := by simp
    rw [this, h]; simp; omega
  have HN : Hid (∀ k (hk : k < s.size), k < a.length → (((s[k]'hk).toNat : Int) == 47) = false) := Lib.hid (fun k hk hka => by
    rw [beq_eq_false_iff_ne]
    intro e
    obtain ⟨h1, h2⟩ := byte_at s _ h k hk
    have : s[k]'hk = 47 := by
      apply UInt8.toNat.inj
      show (s[k]'hk).toNat = 47
      omega
    rw [h2, List.getElem_append_left hka] at this
    exact ha (this ▸ List.getElem_mem hka))
  have HE : Hid (∀ (hk : a.length < s.size), (((s[a.length]'hk).toNat : Int) == 47) = true) := Lib.hid (fun hk => by
    obtain ⟨h1, h2⟩ := byte_at s _ h a.length hk
    rw [h2, List.getElem_append_right (Nat.le_refl _)]
    simp)
  have x1 : s.extract 0 a.length = ⟨a.toArray⟩ := by
    apply ByteArray.ext
    apply Array.toList_inj.1
    rw [Lib.extract_data, h]; simp
  have x2 : s.extract (a.length + 1) s.size = ⟨b.toArray⟩ := by
    apply ByteArray.ext
    apply Array.toList_inj.1
    rw [Lib.extract_data, h, hsz]; simp
  have HX1 := Lib.hid x1
  have HX2 := Lib.hid x2
  have hal : a.length < s.size := by omega
  generalize a.length = n at *
  generalize (⟨a.toArray⟩ : ByteArray) = p at *
  generalize (⟨b.toArray⟩ : ByteArray) = q at *
  clear h ha hsz x1 x2
  go_enter Tryz.func51, Tryz.ntmps51
  go_wp2
  go_loop [5] (fun x => ∃ k : Nat, k ≤ n ∧ x = .int .i64 k) (fun x => s.size - (intOf x).toNat)
  case atStart => exact ⟨0, Nat.zero_le _, rfl⟩
  case round =>
    obtain ⟨k, hk, rfl⟩ := hrel
    have hlt : k < s.size := by omega
    by_cases hkn : k < n
    · have e0 := HN.out k hlt hkn
      go_wp2
      go_round
      case rel => exact ⟨k + 1, by omega, by go_num⟩
      case measure => simp [intOf]; omega
    · obtain rfl : k = n := by omega
      have e0 := HE.out hlt
      have x1 := HX1.out
      have x2 := HX2.out
      go_wp2
      go_quiet (fail)
      go_wp2
      go_ret3
      exact ⟨rfl, below_drewN (Below.refl _ _) _⟩

/-- The number with a text; 0 if there is none. -/
noncomputable def rvX (s : ByteArray) : Rat := @dite _ (∃ x, s = rs x) (Classical.propDecidable _) (fun h => Classical.choose h) (fun _ => 0)
theorem rvX_rs (x : Rat) : rvX (rs x) = x := by
  unfold rvX
  have h : ∃ y, rs x = rs y := ⟨x, rfl⟩
  rw [dif_pos h]
  exact (rs_inj (Classical.choose_spec h)).symm
theorem rvX_no {s : ByteArray} (h : rvB s = false) : rvX s = 0 := by
  unfold rvX
  rw [dif_neg (fun hx => by rw [(rvB_iff s).2 hx] at h; cases h)]

/-- What From answers. -/
def FrP (s : ByteArray) (w : World) (e : Ending) (w' : World) : Prop := ∃ p d : Sl, e = .returned (.tuple #[qW (sgB (rvX s).num) p d, .bool (rvB s)]) ∧ RQ w' p d (rvX s) ∧ Below w.heap.size w w'

set_option maxRecDepth 100000 in
set_option maxHeartbeats 4000000 in
theorem r3_From_no (s p d : ByteArray) (sl v1 v2 : Bool) (w : World) (hp : p.size ≤ 100000000) (hd : d.size ≤ 100000000) (hv1 : ivB p = v1) (hv2 : vnB d.data.toList = v2) (hv : (v1 && v2) = false) (hr : rvB s = false)
    (hsp : ∀ w, Calls Tryz.prog 51 #[.string s] w fun e w' => e = .returned (.tuple #[.string p, .string d, .bool sl]) ∧ Below w.heap.size w w') :
    Calls Tryz.prog 15 #[.string s] w (FrP s w) := by
  have h1 := fun W => r2_Valid p W hp
  rw [hv1] at h1
  have H1 := Lib.hid h1
  have h2 := fun W => re_Valid d W (by unfold maxLen; omega)
  rw [hv2] at h2
  have H2 := Lib.hid h2
  have HSp := Lib.hid hsp
  have HI := Lib.hid (fun W => r3_Int0 W)
  unfold FrP
  rw [rvX_no hr, hr, show sgB (0 : Rat).num = false from rfl]
  clear h1 h2 hsp hv1 hv2 hp hd hr
  cases v1
  · clear hv
    go_enter Tryz.func15, Tryz.ntmps15
    go_wp2_with fail
    generalize hW : World.alloc w _ = W
    obtain ⟨hB, hsz, R2⟩ := A1 hW
    have R2 := Lib.hid R2
    clear hW hsz
    refine (HSp.out _).mono ?_
    rintro e w1 ⟨rfl, hb⟩
    replace hB := bstep hB hb
    have R2 := Lib.hid (keep hb R2.out)
    clear hb
    go_wp2_with fail
    refine (H1.out _).mono ?_
    rintro e w2 ⟨rfl, rfl⟩
    go_wp2_with fail
    refine (HI.out _).mono ?_
    rintro e w3 ⟨a, c, rfl, hr, hb⟩
    have HR := Lib.hid hr
    replace hB := bstep hB hb
    have R2 := Lib.hid (keep hb R2.out)
    clear hb hr
    obtain ⟨R2c0, R2c1, R2c2, R2f0, R2f1, R2f2⟩ := row3 R2.out
    go_wp2_with fail
    exact bodyPost_ret (res_ct rfl q_row rfl (store3 R2.out _ _ _) rfl) rfl ⟨_, _, rfl, HR.out.store3 R2.out, store3_below hB (by omega) _ _ _⟩
  · cases v2
    · clear hv
      go_enter Tryz.func15, Tryz.ntmps15
      go_wp2_with fail
      generalize hW : World.alloc w _ = W
      obtain ⟨hB, hsz, R2⟩ := A1 hW
      have R2 := Lib.hid R2
      clear hW hsz
      refine (HSp.out _).mono ?_
      rintro e w1 ⟨rfl, hb⟩
      replace hB := bstep hB hb
      have R2 := Lib.hid (keep hb R2.out)
      clear hb
      go_wp2_with fail
      refine (H1.out _).mono ?_
      rintro e w2 ⟨rfl, rfl⟩
      go_wp2_with fail
      refine (H2.out _).mono ?_
      rintro e w2 ⟨rfl, rfl⟩
      go_wp2_with fail
      refine (HI.out _).mono ?_
      rintro e w3 ⟨a, c, rfl, hr, hb⟩
      have HR := Lib.hid hr
      replace hB := bstep hB hb
      have R2 := Lib.hid (keep hb R2.out)
      clear hb hr
      obtain ⟨R2c0, R2c1, R2c2, R2f0, R2f1, R2f2⟩ := row3 R2.out
      go_wp2_with fail
      exact bodyPost_ret (res_ct rfl q_row rfl (store3 R2.out _ _ _) rfl) rfl ⟨_, _, rfl, HR.out.store3 R2.out, store3_below hB (by omega) _ _ _⟩
    · exact absurd hv (by decide)

theorem val_iS (z : Int) (w : World) (hz : nl z.natAbs ≤ 10000000) : Calls Tryz.prog 52 #[.string (iS z)] w fun e w' => e = .returned (.bool true) ∧ w' = w := by
  have := r2_Valid (iS z) w (by have := iS_size z; omega)
  rwa [ivB_iS] at this
theorem val_nS (n : Nat) (w : World) (hz : nl n ≤ 10000000) : Calls Tryz.prog 53 #[.string (nS n)] w fun e w' => e = .returned (.bool true) ∧ w' = w := by
  have := re_Valid (nS n) w (by have := nS_size n; unfold maxLen; omega)
  rwa [nS_list, (vnB_iff _).2 (decDigits_valid n)] at this

set_option maxRecDepth 100000 in
set_option maxHeartbeats 4000000 in
theorem r3_From_whole (s : ByteArray) (z : Int) (w : World) (hz : nl z.natAbs ≤ 10000000) (x : Rat) (hx1 : x.num = z) (hx2 : x.den = 1) (hr : rvX s = x) (hr2 : rvB s = true)
    (hsp : ∀ w, Calls Tryz.prog 51 #[.string s] w fun e w' => e = .returned (.tuple #[.string (iS z), .string (nS 1), .bool false]) ∧ Below w.heap.size w w') :
    Calls Tryz.prog 15 #[.string s] w (FrP s w) := by
  have H1 := Lib.hid (fun W => val_iS z W hz)
  have H2 := Lib.hid (fun W => val_nS 1 W (by unfold nl; rw [Lib.decDigits]; decide))
  have HSp := Lib.hid hsp
  have HRd := Lib.hid (fun W => r2_Read z W (by omega))
  have HFr := Lib.hid (fun W => r1_From 1 W (by unfold nl; rw [Lib.decDigits]; decide))
  have HK := Lib.hid (fun W p d (h1 : RN W p z.natAbs) (h2 : RN W d 1) => rat_eta hx1 hx2 h1 h2)
  unfold FrP
  rw [hr, hr2, hx1]
  clear hsp hr hr2 hz hx1 hx2
  generalize iS z = si at *
  generalize nS 1 = s1 at *
  generalize z.natAbs = k at *
  generalize sgB z = b at *
  go_enter Tryz.func15, Tryz.ntmps15
  go_wp2_with fail
  generalize hW : World.alloc w _ = W
  obtain ⟨hB, hsz, R2⟩ := A1 hW
  have R2 := Lib.hid R2
  clear hW hsz
  refine (HSp.out _).mono ?_
  rintro e w1 ⟨rfl, hb⟩
  replace hB := bstep hB hb
  have R2 := Lib.hid (keep hb R2.out)
  clear hb
  go_wp2_with fail
  refine (H1.out _).mono ?_
  rintro e w2 ⟨rfl, rfl⟩
  go_wp2_with fail
  refine (H2.out _).mono ?_
  rintro e w2 ⟨rfl, rfl⟩
  go_wp2_with fail
  refine (HRd.out _).mono ?_
  rintro e w3 ⟨p, rfl, hp, hb⟩
  have HP := Lib.hid hp
  replace hB := bstep hB hb
  have R2 := Lib.hid (keep hb R2.out)
  clear hb hp
  go_wp2_with fail
  refine (HFr.out _).mono ?_
  rintro e w4 ⟨d, rfl, hd, hb⟩
  have HD := Lib.hid hd
  have HP := Lib.hid (HP.out.below hb)
  replace hB := bstep hB hb
  have R2 := Lib.hid (keep hb R2.out)
  clear hb hd
  go_upto_region 5 with fail
  generalize hW : World.alloc _ _ = V
  obtain ⟨hb, hsz, R7⟩ := A1 hW
  replace hB := bstep hB hb
  have R2 := Lib.hid (keep hb R2.out)
  have HP := Lib.hid (HP.out.below hb)
  have HD := Lib.hid (HD.out.below hb)
  clear hb
  have R7 := Lib.hid R7
  clear hW hsz
  obtain ⟨R2c0, R2c1, R2c2, R2f0, R2f1, R2f2⟩ := row3 R2.out
  obtain ⟨R7c0, R7c1, R7c2, R7f0, R7f1, R7f2⟩ := row3 R7.out
  go_wp2_with fail
  exact bodyPost_ret (res_ct rfl q_row rfl (store3 R2.out _ _ _) rfl) rfl ⟨_, _, rfl, (HK.out _ _ _ HP.out HD.out).store3 R2.out, store3_below hB (by omega) _ _ _⟩

theorem gcd_ok {z : Int} {q : Nat} (h : Nat.gcd z.natAbs q = 1) (hq : 0 < q) : ∃ x : Rat, x.num = z ∧ x.den = q := rat_of z q (by omega) h

set_option maxRecDepth 100000 in
set_option maxHeartbeats 8000000 in
/-- With a slash, both parts being numbers. -/
theorem r3_From_parts (s : ByteArray) (z : Int) (q : Nat) (x : Rat) (ok : Bool) (w : World) (hz : nl z.natAbs ≤ 10000000) (hq : nl q ≤ 10000000) (hr : rvX s = x) (hr2 : rvB s = ok)
    (hok : ok = true → x.num = z ∧ x.den = q ∧ 1 < q ∧ z ≠ 0 ∧ Nat.gcd z.natAbs q = 1) (hno : ok = false → x = 0 ∧ (¬ 1 < q ∨ z = 0 ∨ Nat.gcd z.natAbs q ≠ 1))
    (hsp : ∀ w, Calls Tryz.prog 51 #[.string s] w fun e w' => e = .returned (.tuple #[.string (iS z), .string (nS q), .bool true]) ∧ Below w.heap.size w w') :
    Calls Tryz.prog 15 #[.string s] w (FrP s w) := by
  have H1 := Lib.hid (fun W => val_iS z W hz)
  have H2 := Lib.hid (fun W => val_nS q W hq)
  have HSp := Lib.hid hsp
  have HRd := Lib.hid (fun W => r2_Read z W (by omega))
  have HFr := Lib.hid (fun W => r1_From q W (by omega))
  have HOn := Lib.hid (fun W => r1_Small 1 W (by decide))
  have HC1 := Lib.hid (fun W (d o : Sl) (h1 : RN W d q) (h2 : RN W o 1) => n_Cmp d o q 1 W h1 h2)
  have HSg := Lib.hid (fun W (p : Sl) (h1 : RN W p z.natAbs) => r2_Signum z p W h1)
  have HCo := Lib.hid (fun W (p d : Sl) (h1 : RN W p z.natAbs) (h2 : RN W d q) => n_Common p d _ _ W h1 h2 (by omega) (by omega))
  have HC2 := Lib.hid (fun W (g o : Sl) (h1 : RN W g (Nat.gcd z.natAbs q)) (h2 : RN W o 1) => n_Cmp g o _ 1 W h1 h2)
  have HI := Lib.hid (fun W => r3_Int0 W)
  have HK : ok = true → Hid (∀ W p d, RN W p z.natAbs → RN W d q → RQ W p d x) := fun h => Lib.hid (fun W p d h1 h2 => rat_eta (hok h).1 (hok h).2.1 h1 h2)
  have HSG : ok = true → sgB x.num = sgB z := fun h => by rw [(hok h).1]
  have HX0 : ok = false → x = 0 := fun h => (hno h).1
  obtain ⟨c1, hc1⟩ : ∃ c1, c1 = cmpI (q : Int) (1 : Nat) := ⟨_, rfl⟩
  obtain ⟨sg, hsg⟩ : ∃ sg, sg = z.sign := ⟨_, rfl⟩
  obtain ⟨c2, hc2⟩ : ∃ c2, c2 = cmpI (Nat.gcd z.natAbs q : Nat) (1 : Nat) := ⟨_, rfl⟩
  rw [← hc1] at HC1
  rw [← hsg] at HSg
  rw [← hc2] at HC2
  have k1 : 0 < c1 ↔ 1 < q := by
    rw [hc1]; unfold cmpI
    by_cases h : (q : Int) < (1 : Nat)
    · rw [if_pos h]; omega
    · by_cases h2 : ((1 : Nat) : Int) < q
      · rw [if_neg h, if_pos h2]; omega
      · rw [if_neg h, if_neg h2]; omega
  have k2 : sg = 0 ↔ z = 0 := by rw [hsg]; exact Int.sign_eq_zero_iff_zero
  have k3 : c2 = 0 ↔ Nat.gcd z.natAbs q = 1 := by
    rw [hc2]; unfold cmpI
    by_cases h : ((Nat.gcd z.natAbs q : Nat) : Int) < (1 : Nat)
    · rw [if_pos h]; omega
    · by_cases h2 : ((1 : Nat) : Int) < (Nat.gcd z.natAbs q : Nat)
      · rw [if_neg h, if_pos h2]; omega
      · rw [if_neg h, if_neg h2]; omega
  have hok2 : ok = true → 0 < c1 ∧ sg ≠ 0 ∧ c2 = 0 := fun h => ⟨k1.2 (hok h).2.2.1, fun e => (hok h).2.2.2.1 (k2.1 e), k3.2 (hok h).2.2.2.2⟩
  have hno2 : ok = false → ¬ 0 < c1 ∨ sg = 0 ∨ c2 ≠ 0 := fun h => by
    rcases (hno h).2 with h | h | h
    · exact .inl (fun e => h (k1.1 e))
    · exact .inr (.inl (k2.2 h))
    · exact .inr (.inr (fun e => h (k3.1 e)))
  unfold FrP
  rw [hr, hr2]
  clear hsp hr hr2 hz hq hok hno hc1 hsg hc2 k1 k2 k3
  generalize iS z = si at *
  generalize nS q = s1 at *
  generalize Nat.gcd z.natAbs q = gq at *
  generalize z.natAbs = k at *
  generalize sgB z = b at *
  have rest : ∀ (P : Prop), (((sgB x.num = if ok = true then b else false) ∧ Hid (ok = true → ∀ W p d, RN W p k → RN W d q → RQ W p d x) ∧ Hid (ok = false → x = 0)) → P) → P := fun P h => h (by
    refine ⟨?_, Lib.hid (fun h => (HK h).out), Lib.hid HX0⟩
    cases ok
    · rw [HX0 rfl]; rfl
    · exact HSG rfl)
  refine rest _ (fun ⟨hsx, HKQ, HZ⟩ => ?_)
  rw [hsx]
  clear rest HK HSG HX0 hsx
  cases ok
  · have HNO := Lib.hid (hno2 rfl)
    have hz := HZ.out rfl
    rw [hz]
    clear hok2 hno2 HKQ HZ hz
    by_cases d1 : 0 < c1
    · by_cases d2 : sg = 0
      · subst d2
        have e2 : ((0 : Int) != 0) = false := rfl
        go_enter Tryz.func15, Tryz.ntmps15
        go_wp2_with fail
        generalize hW : World.alloc w _ = W
        obtain ⟨hB, hsz, R2⟩ := A1 hW
        have R2 := Lib.hid R2
        clear hW hsz
        refine (HSp.out _).mono ?_
        rintro e w1 ⟨rfl, hb⟩
        replace hB := bstep hB hb
        have R2 := Lib.hid (keep hb R2.out)
        clear hb
        go_wp2_with fail
        refine (H1.out _).mono ?_
        rintro e w2 ⟨rfl, rfl⟩
        go_wp2_with fail
        refine (H2.out _).mono ?_
        rintro e w2 ⟨rfl, rfl⟩
        go_wp2_with fail
        refine (HRd.out _).mono ?_
        rintro e w3 ⟨p, rfl, hp, hb⟩
        replace hB := bstep hB hb
        have R2 := Lib.hid (keep hb R2.out)
        have HP := Lib.hid hp
        clear hp
        clear hb
        go_wp2_with fail
        refine (HFr.out _).mono ?_
        rintro e w4 ⟨d, rfl, hd, hb⟩
        replace hB := bstep hB hb
        have R2 := Lib.hid (keep hb R2.out)
        have HP := Lib.hid (HP.out.below hb)
        have HD := Lib.hid hd
        clear hd
        clear hb
        go_upto_region 5 with fail
        generalize hW : World.alloc _ _ = V
        obtain ⟨hb, hsz, R7⟩ := A1 hW
        replace hB := bstep hB hb
        have R2 := Lib.hid (keep hb R2.out)
        have HP := Lib.hid (HP.out.below hb)
        have HD := Lib.hid (HD.out.below hb)
        clear hb
        have R7 := Lib.hid R7
        clear hW hsz
        go_wp2_with fail
        refine (HOn.out _).mono ?_
        rintro e w5 ⟨o, rfl, ho, hb⟩
        replace hB := bstep hB hb
        have R2 := Lib.hid (keep hb R2.out)
        have R7 := Lib.hid (keep hb R7.out)
        have HP := Lib.hid (HP.out.below hb)
        have HD := Lib.hid (HD.out.below hb)
        have HO := Lib.hid ho
        clear ho
        clear hb
        obtain ⟨R7c0, R7c1, R7c2, R7f0, R7f1, R7f2⟩ := row3 R7.out
        go_wp2_with fail
        clear R7c0 R7c1 R7c2 R7f0 R7f1 R7f2
        refine (HC1.out _ d o HD.out HO.out).mono ?_
        rintro e w6 ⟨rfl, hb⟩
        replace hB := bstep hB hb
        have R2 := Lib.hid (keep hb R2.out)
        have R7 := Lib.hid (keep hb R7.out)
        have HP := Lib.hid (HP.out.below hb)
        have HD := Lib.hid (HD.out.below hb)
        have HO := Lib.hid (HO.out.below hb)
        clear hb
        obtain ⟨R7c0, R7c1, R7c2, R7f0, R7f1, R7f2⟩ := row3 R7.out
        go_wp2_with fail
        clear R7c0 R7c1 R7c2 R7f0 R7f1 R7f2
        refine (HSg.out _ p HP.out).mono ?_
        rintro e w7 ⟨rfl, hb⟩
        replace hB := bstep hB hb
        have R2 := Lib.hid (keep hb R2.out)
        have R7 := Lib.hid (keep hb R7.out)
        have HP := Lib.hid (HP.out.below hb)
        have HD := Lib.hid (HD.out.below hb)
        have HO := Lib.hid (HO.out.below hb)
        clear hb
        go_wp2_with fail
        refine (HI.out _).mono ?_
        rintro e w8 ⟨a, c, rfl, hq, hb⟩
        replace hB := bstep hB hb
        have R2 := Lib.hid (keep hb R2.out)
        have HQ := Lib.hid hq
        clear hq
        clear hb
        obtain ⟨R2c0, R2c1, R2c2, R2f0, R2f1, R2f2⟩ := row3 R2.out
        go_wp2_with fail
        exact bodyPost_ret (res_ct rfl q_row rfl (store3 R2.out _ _ _) rfl) rfl ⟨_, _, rfl, HQ.out.store3 R2.out, store3_below hB (by omega) _ _ _⟩
      · have d3 : c2 ≠ 0 := by
          rcases HNO.out with h | h | h
          · exact absurd d1 h
          · exact absurd h d2
          · exact h
        have e2 : (sg != 0) = true := by rw [bne_iff_ne]; exact d2
        have e3 : (c2 == 0) = false := by rw [beq_eq_false_iff_ne]; exact d3
        go_enter Tryz.func15, Tryz.ntmps15
        go_wp2_with fail
        generalize hW : World.alloc w _ = W
        obtain ⟨hB, hsz, R2⟩ := A1 hW
        have R2 := Lib.hid R2
        clear hW hsz
        refine (HSp.out _).mono ?_
        rintro e w1 ⟨rfl, hb⟩
        replace hB := bstep hB hb
        have R2 := Lib.hid (keep hb R2.out)
        clear hb
        go_wp2_with fail
        refine (H1.out _).mono ?_
        rintro e w2 ⟨rfl, rfl⟩
        go_wp2_with fail
        refine (H2.out _).mono ?_
        rintro e w2 ⟨rfl, rfl⟩
        go_wp2_with fail
        refine (HRd.out _).mono ?_
        rintro e w3 ⟨p, rfl, hp, hb⟩
        replace hB := bstep hB hb
        have R2 := Lib.hid (keep hb R2.out)
        have HP := Lib.hid hp
        clear hp
        clear hb
        go_wp2_with fail
        refine (HFr.out _).mono ?_
        rintro e w4 ⟨d, rfl, hd, hb⟩
        replace hB := bstep hB hb
        have R2 := Lib.hid (keep hb R2.out)
        have HP := Lib.hid (HP.out.below hb)
        have HD := Lib.hid hd
        clear hd
        clear hb
        go_upto_region 5 with fail
        generalize hW : World.alloc _ _ = V
        obtain ⟨hb, hsz, R7⟩ := A1 hW
        replace hB := bstep hB hb
        have R2 := Lib.hid (keep hb R2.out)
        have HP := Lib.hid (HP.out.below hb)
        have HD := Lib.hid (HD.out.below hb)
        clear hb
        have R7 := Lib.hid R7
        clear hW hsz
        go_wp2_with fail
        refine (HOn.out _).mono ?_
        rintro e w5 ⟨o, rfl, ho, hb⟩
        replace hB := bstep hB hb
        have R2 := Lib.hid (keep hb R2.out)
        have R7 := Lib.hid (keep hb R7.out)
        have HP := Lib.hid (HP.out.below hb)
        have HD := Lib.hid (HD.out.below hb)
        have HO := Lib.hid ho
        clear ho
        clear hb
        obtain ⟨R7c0, R7c1, R7c2, R7f0, R7f1, R7f2⟩ := row3 R7.out
        go_wp2_with fail
        clear R7c0 R7c1 R7c2 R7f0 R7f1 R7f2
        refine (HC1.out _ d o HD.out HO.out).mono ?_
        rintro e w6 ⟨rfl, hb⟩
        replace hB := bstep hB hb
        have R2 := Lib.hid (keep hb R2.out)
        have R7 := Lib.hid (keep hb R7.out)
        have HP := Lib.hid (HP.out.below hb)
        have HD := Lib.hid (HD.out.below hb)
        have HO := Lib.hid (HO.out.below hb)
        clear hb
        obtain ⟨R7c0, R7c1, R7c2, R7f0, R7f1, R7f2⟩ := row3 R7.out
        go_wp2_with fail
        clear R7c0 R7c1 R7c2 R7f0 R7f1 R7f2
        refine (HSg.out _ p HP.out).mono ?_
        rintro e w7 ⟨rfl, hb⟩
        replace hB := bstep hB hb
        have R2 := Lib.hid (keep hb R2.out)
        have R7 := Lib.hid (keep hb R7.out)
        have HP := Lib.hid (HP.out.below hb)
        have HD := Lib.hid (HD.out.below hb)
        have HO := Lib.hid (HO.out.below hb)
        clear hb
        obtain ⟨R7c0, R7c1, R7c2, R7f0, R7f1, R7f2⟩ := row3 R7.out
        go_wp2_with fail
        clear R7c0 R7c1 R7c2 R7f0 R7f1 R7f2
        refine (HCo.out _ p d HP.out HD.out).mono ?_
        rintro e w8 ⟨g, rfl, hg, hb⟩
        replace hB := bstep hB hb
        have R2 := Lib.hid (keep hb R2.out)
        have HO := Lib.hid (HO.out.below hb)
        have HG := Lib.hid hg
        clear hg
        clear hb
        go_wp2_with fail
        refine (HC2.out _ g o HG.out HO.out).mono ?_
        rintro e w9 ⟨rfl, hb⟩
        replace hB := bstep hB hb
        have R2 := Lib.hid (keep hb R2.out)
        clear hb
        go_wp2_with fail
        refine (HI.out _).mono ?_
        rintro e wA ⟨a, c, rfl, hq, hb⟩
        replace hB := bstep hB hb
        have R2 := Lib.hid (keep hb R2.out)
        have HQ := Lib.hid hq
        clear hq
        clear hb
        obtain ⟨R2c0, R2c1, R2c2, R2f0, R2f1, R2f2⟩ := row3 R2.out
        go_wp2_with fail
        exact bodyPost_ret (res_ct rfl q_row rfl (store3 R2.out _ _ _) rfl) rfl ⟨_, _, rfl, HQ.out.store3 R2.out, store3_below hB (by omega) _ _ _⟩
    · clear HNO
      go_enter Tryz.func15, Tryz.ntmps15
      go_wp2_with fail
      generalize hW : World.alloc w _ = W
      obtain ⟨hB, hsz, R2⟩ := A1 hW
      have R2 := Lib.hid R2
      clear hW hsz
      refine (HSp.out _).mono ?_
      rintro e w1 ⟨rfl, hb⟩
      replace hB := bstep hB hb
      have R2 := Lib.hid (keep hb R2.out)
      clear hb
      go_wp2_with fail
      refine (H1.out _).mono ?_
      rintro e w2 ⟨rfl, rfl⟩
      go_wp2_with fail
      refine (H2.out _).mono ?_
      rintro e w2 ⟨rfl, rfl⟩
      go_wp2_with fail
      refine (HRd.out _).mono ?_
      rintro e w3 ⟨p, rfl, hp, hb⟩
      replace hB := bstep hB hb
      have R2 := Lib.hid (keep hb R2.out)
      have HP := Lib.hid hp
      clear hp
      clear hb
      go_wp2_with fail
      refine (HFr.out _).mono ?_
      rintro e w4 ⟨d, rfl, hd, hb⟩
      replace hB := bstep hB hb
      have R2 := Lib.hid (keep hb R2.out)
      have HP := Lib.hid (HP.out.below hb)
      have HD := Lib.hid hd
      clear hd
      clear hb
      go_upto_region 5 with fail
      generalize hW : World.alloc _ _ = V
      obtain ⟨hb, hsz, R7⟩ := A1 hW
      replace hB := bstep hB hb
      have R2 := Lib.hid (keep hb R2.out)
      have HP := Lib.hid (HP.out.below hb)
      have HD := Lib.hid (HD.out.below hb)
      clear hb
      have R7 := Lib.hid R7
      clear hW hsz
      go_wp2_with fail
      refine (HOn.out _).mono ?_
      rintro e w5 ⟨o, rfl, ho, hb⟩
      replace hB := bstep hB hb
      have R2 := Lib.hid (keep hb R2.out)
      have R7 := Lib.hid (keep hb R7.out)
      have HP := Lib.hid (HP.out.below hb)
      have HD := Lib.hid (HD.out.below hb)
      have HO := Lib.hid ho
      clear ho
      clear hb
      obtain ⟨R7c0, R7c1, R7c2, R7f0, R7f1, R7f2⟩ := row3 R7.out
      go_wp2_with fail
      clear R7c0 R7c1 R7c2 R7f0 R7f1 R7f2
      refine (HC1.out _ d o HD.out HO.out).mono ?_
      rintro e w6 ⟨rfl, hb⟩
      replace hB := bstep hB hb
      have R2 := Lib.hid (keep hb R2.out)
      have R7 := Lib.hid (keep hb R7.out)
      have HP := Lib.hid (HP.out.below hb)
      have HD := Lib.hid (HD.out.below hb)
      have HO := Lib.hid (HO.out.below hb)
      clear hb
      go_wp2_with fail
      refine (HI.out _).mono ?_
      rintro e w8 ⟨a, c, rfl, hq, hb⟩
      replace hB := bstep hB hb
      have R2 := Lib.hid (keep hb R2.out)
      have HQ := Lib.hid hq
      clear hq
      clear hb
      obtain ⟨R2c0, R2c1, R2c2, R2f0, R2f1, R2f2⟩ := row3 R2.out
      go_wp2_with fail
      exact bodyPost_ret (res_ct rfl q_row rfl (store3 R2.out _ _ _) rfl) rfl ⟨_, _, rfl, HQ.out.store3 R2.out, store3_below hB (by omega) _ _ _⟩
  · obtain ⟨d1, d2, d3⟩ := hok2 rfl
    have HKR : Hid (∀ W p d, RN W p k → RN W d q → RQ W p d x) := Lib.hid (HKQ.out rfl)
    clear HKQ
    have e2 : (sg != 0) = true := by rw [bne_iff_ne]; exact d2
    have e3 : (c2 == 0) = true := by rw [beq_iff_eq]; exact d3
    clear hok2 hno2 HZ d2 d3
    go_enter Tryz.func15, Tryz.ntmps15
    go_wp2_with fail
    generalize hW : World.alloc w _ = W
    obtain ⟨hB, hsz, R2⟩ := A1 hW
    have R2 := Lib.hid R2
    clear hW hsz
    refine (HSp.out _).mono ?_
    rintro e w1 ⟨rfl, hb⟩
    replace hB := bstep hB hb
    have R2 := Lib.hid (keep hb R2.out)
    clear hb
    go_wp2_with fail
    refine (H1.out _).mono ?_
    rintro e w2 ⟨rfl, rfl⟩
    go_wp2_with fail
    refine (H2.out _).mono ?_
    rintro e w2 ⟨rfl, rfl⟩
    go_wp2_with fail
    refine (HRd.out _).mono ?_
    rintro e w3 ⟨p, rfl, hp, hb⟩
    replace hB := bstep hB hb
    have R2 := Lib.hid (keep hb R2.out)
    have HP := Lib.hid hp
    clear hp
    clear hb
    go_wp2_with fail
    refine (HFr.out _).mono ?_
    rintro e w4 ⟨d, rfl, hd, hb⟩
    replace hB := bstep hB hb
    have R2 := Lib.hid (keep hb R2.out)
    have HP := Lib.hid (HP.out.below hb)
    have HD := Lib.hid hd
    clear hd
    clear hb
    go_upto_region 5 with fail
    generalize hW : World.alloc _ _ = V
    obtain ⟨hb, hsz, R7⟩ := A1 hW
    replace hB := bstep hB hb
    have R2 := Lib.hid (keep hb R2.out)
    have HP := Lib.hid (HP.out.below hb)
    have HD := Lib.hid (HD.out.below hb)
    clear hb
    have R7 := Lib.hid R7
    clear hW hsz
    go_wp2_with fail
    refine (HOn.out _).mono ?_
    rintro e w5 ⟨o, rfl, ho, hb⟩
    replace hB := bstep hB hb
    have R2 := Lib.hid (keep hb R2.out)
    have R7 := Lib.hid (keep hb R7.out)
    have HP := Lib.hid (HP.out.below hb)
    have HD := Lib.hid (HD.out.below hb)
    have HO := Lib.hid ho
    clear ho
    clear hb
    obtain ⟨R7c0, R7c1, R7c2, R7f0, R7f1, R7f2⟩ := row3 R7.out
    go_wp2_with fail
    clear R7c0 R7c1 R7c2 R7f0 R7f1 R7f2
    refine (HC1.out _ d o HD.out HO.out).mono ?_
    rintro e w6 ⟨rfl, hb⟩
    replace hB := bstep hB hb
    have R2 := Lib.hid (keep hb R2.out)
    have R7 := Lib.hid (keep hb R7.out)
    have HP := Lib.hid (HP.out.below hb)
    have HD := Lib.hid (HD.out.below hb)
    have HO := Lib.hid (HO.out.below hb)
    clear hb
    obtain ⟨R7c0, R7c1, R7c2, R7f0, R7f1, R7f2⟩ := row3 R7.out
    go_wp2_with fail
    clear R7c0 R7c1 R7c2 R7f0 R7f1 R7f2
    refine (HSg.out _ p HP.out).mono ?_
    rintro e w7 ⟨rfl, hb⟩
    replace hB := bstep hB hb
    have R2 := Lib.hid (keep hb R2.out)
    have R7 := Lib.hid (keep hb R7.out)
    have HP := Lib.hid (HP.out.below hb)
    have HD := Lib.hid (HD.out.below hb)
    have HO := Lib.hid (HO.out.below hb)
    clear hb
    obtain ⟨R7c0, R7c1, R7c2, R7f0, R7f1, R7f2⟩ := row3 R7.out
    go_wp2_with fail
    clear R7c0 R7c1 R7c2 R7f0 R7f1 R7f2
    refine (HCo.out _ p d HP.out HD.out).mono ?_
    rintro e w8 ⟨g, rfl, hg, hb⟩
    replace hB := bstep hB hb
    have R2 := Lib.hid (keep hb R2.out)
    have R7 := Lib.hid (keep hb R7.out)
    have HO := Lib.hid (HO.out.below hb)
    have HP := Lib.hid (HP.out.below hb)
    have HD := Lib.hid (HD.out.below hb)
    have HG := Lib.hid hg
    clear hg
    clear hb
    go_wp2_with fail
    refine (HC2.out _ g o HG.out HO.out).mono ?_
    rintro e w9 ⟨rfl, hb⟩
    replace hB := bstep hB hb
    have R2 := Lib.hid (keep hb R2.out)
    have R7 := Lib.hid (keep hb R7.out)
    have HP := Lib.hid (HP.out.below hb)
    have HD := Lib.hid (HD.out.below hb)
    clear hb
    obtain ⟨R2c0, R2c1, R2c2, R2f0, R2f1, R2f2⟩ := row3 R2.out
    obtain ⟨R7c0, R7c1, R7c2, R7f0, R7f1, R7f2⟩ := row3 R7.out
    go_wp2_with fail
    exact bodyPost_ret (res_ct rfl q_row rfl (store3 R2.out _ _ _) rfl) rfl ⟨_, _, rfl, (HKR.out _ _ _ HP.out HD.out).store3 R2.out, store3_below hB (by omega) _ _ _⟩
end Go.Proofs.YthkkdepppjiaeaaGreatDoor

/- The reference's From at whatever text. -/
namespace Go.Proofs.YthkkdepppjiaeaaGreatDoor
open Go.RowKit Go.Shelf Go.Sort

theorem cut_uniq {a b a' b' : List UInt8} (h : a ++ 47 :: b = a' ++ 47 :: b') (ha : (47 : UInt8) ∉ a) (ha' : (47 : UInt8) ∉ a') : a = a' ∧ b = b' := by
  have h1 := cut_at 47 a b ha
  rw [h, cut_at 47 a' b' ha'] at h1
  injection h1 with e1 e2
  injection e2 with e2 _
  exact ⟨e1.symm, e2.symm⟩
theorem r3_From (s : ByteArray) (w : World) (hs : s.size ≤ 1000000) : Calls Tryz.prog 15 #[.string s] w (FrP s w) := by
  by_cases hm : (47 : UInt8) ∈ s.data.toList
  · obtain ⟨a, b, hab, ha⟩ := split_mem 47 _ hm
    have hlen : s.size = a.length + 1 + b.length := by
      have : s.size = s.data.toList.length := by simp
      rw [this, hab]; simp; omega
    have hsp := fun w => r3_split_at s a b w (by omega) hab ha
    -- what a number's text would be
    have hrs : ∀ x : Rat, s = rs x → x.den ≠ 1 ∧ a = (iS x.num).data.toList ∧ b = Lib.decDigits x.den := by
      intro x hx
      have hl := rs_list x
      rw [← hx, hab] at hl
      by_cases hd : x.den = 1
      · rw [if_pos hd] at hl
        exact absurd (hl ▸ (by simp : (47 : UInt8) ∈ a ++ 47 :: b)) (iS_no _)
      · rw [if_neg hd] at hl
        obtain ⟨e1, e2⟩ := cut_uniq hl ha (iS_no _)
        exact ⟨hd, e1, e2⟩
    by_cases hv : (ivB ⟨a.toArray⟩ && vnB b) = true
    · rw [Bool.and_eq_true] at hv
      obtain ⟨z, hz⟩ := (ivB_iff _).1 hv.1
      have hb := (vnB_iff _).1 hv.2
      have hq : (⟨b.toArray⟩ : ByteArray) = nS (dval b) := by
        unfold nS; rw [decDigits_of_valid b hb]
      rw [hz, hq] at hsp
      have sz1 : nl z.natAbs ≤ 10000000 := by
        have h1 := iS_nl z
        rw [← hz] at h1
        have : (⟨a.toArray⟩ : ByteArray).size = a.length := by show a.toArray.size = _; simp
        omega
      have sz2 : nl (dval b) ≤ 10000000 := by
        rw [← nS_size, ← hq]
        have : (⟨b.toArray⟩ : ByteArray).size = b.length := by show b.toArray.size = _; simp
        omega
      have ea : a = (iS z).data.toList := by rw [← hz]
      have eb : b = Lib.decDigits (dval b) := (decDigits_of_valid b hb).symm
      refine r3_From_parts s z (dval b) (rvX s) (rvB s) w sz1 sz2 rfl rfl (fun hok => ?_) (fun hno => ?_) hsp
      · obtain ⟨x, hx⟩ := (rvB_iff s).1 hok
        obtain ⟨hd, e1, e2⟩ := hrs x hx
        rw [show rvX s = x by rw [hx]; exact rvX_rs x]
        have n1 : x.num = z := iS_inj (ByteArray.ext (Array.toList_inj.1 (by rw [← e1, ea])))
        have n2 : x.den = dval b := decDigits_inj (by rw [← e2, ← eb])
        have hp := x.den_pos
        refine ⟨n1, n2, by omega, fun h0 => ?_, ?_⟩
        · have hr := x.reduced
          rw [n1, h0] at hr
          have : x.den = 1 := by simpa using hr
          exact hd this
        · rw [← n1, ← n2]; exact x.reduced
      · refine ⟨rvX_no hno, ?_⟩
        by_cases h1 : 1 < dval b
        · by_cases h2 : z = 0
          · exact .inr (.inl h2)
          · refine .inr (.inr (fun h3 => ?_))
            obtain ⟨x, n1, n2⟩ := gcd_ok h3 (by omega)
            have : rvB s = true := by
              rw [rvB_iff]
              refine ⟨x, ?_⟩
              apply ByteArray.ext
              apply Array.toList_inj.1
              rw [rs_list, if_neg (by omega), n1, n2, hab, ← ea, ← eb]
            rw [this] at hno; cases hno
        · exact .inl h1
    · refine r3_From_no s ⟨a.toArray⟩ ⟨b.toArray⟩ true (ivB ⟨a.toArray⟩) (vnB b) w ?_ ?_ rfl rfl (by simpa using hv) ?_ hsp
      · show a.toArray.size ≤ _; simp; omega
      · show b.toArray.size ≤ _; simp; omega
      · rw [Bool.eq_false_iff]
        intro h
        obtain ⟨x, hx⟩ := (rvB_iff s).1 h
        obtain ⟨_, e1, e2⟩ := hrs x hx
        apply hv
        rw [Bool.and_eq_true]
        refine ⟨(ivB_iff _).2 ⟨x.num, ?_⟩, by rw [e2]; exact (vnB_iff _).2 (decDigits_valid _)⟩
        rw [e1]
  · have hsp := fun w => r3_split_none s w (by omega) hm
    have e1 : nS 1 = ⟨#[49]⟩ := nS_1
    rw [← e1] at hsp
    have hrs : ∀ x : Rat, s = rs x → x.den = 1 := by
      intro x hx
      by_cases hd : x.den = 1
      · exact hd
      · have hl := rs_list x
        rw [if_neg hd, ← hx] at hl
        exact absurd (hl ▸ (by simp : (47 : UInt8) ∈ (iS x.num).data.toList ++ 47 :: Lib.decDigits x.den)) hm
    by_cases hv : ivB s = true
    · obtain ⟨z, hz⟩ := (ivB_iff s).1 hv
      obtain ⟨x, n1, n2⟩ := gcd_ok (z := z) (q := 1) (Nat.gcd_one_right _) (by decide)
      have hx : s = rs x := by rw [rs_one n2, n1, hz]
      have sz1 : nl z.natAbs ≤ 10000000 := by
        have h1 := iS_nl z
        rw [← hz] at h1; omega
      rw [hz] at hsp
      refine r3_From_whole s z w sz1 x n1 n2 (by rw [hx]; exact rvX_rs x) (by rw [hx]; exact rvB_rs x) ?_
      rw [hz]; exact hsp
    · refine r3_From_no s s (nS 1) false (ivB s) true w (by omega) ?_ rfl ?_ (by simpa using hv) ?_ hsp
      · rw [e1]; decide
      · rw [nS_list]; exact (vnB_iff _).2 (decDigits_valid _)
      · rw [Bool.eq_false_iff]
        intro h
        obtain ⟨x, hx⟩ := (rvB_iff s).1 h
        exact hv ((ivB_iff s).2 ⟨x.num, by rw [hx, rs_one (hrs x hx)]⟩)

/-- The number with a short text is short. -/
theorem sz_rvX {s : ByteArray} {k : Nat} (hs : s.size ≤ k) (hk : 1 ≤ k) : Sz (k + 1) (rvX s) := by
  cases h : rvB s with
  | false => rw [rvX_no h]; exact sz_0 _ (by omega)
  | true =>
    obtain ⟨x, hx⟩ := (rvB_iff s).1 h
    have := rs_nl x
    rw [← hx] at this
    rw [show rvX s = x by rw [hx]; exact rvX_rs x]
    exact ⟨by omega, by omega⟩
end Go.Proofs.YthkkdepppjiaeaaGreatDoor
