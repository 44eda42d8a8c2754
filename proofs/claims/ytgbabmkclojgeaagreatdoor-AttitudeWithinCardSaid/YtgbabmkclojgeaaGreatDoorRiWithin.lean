/- A PART OF THE PROOF, JOINED OUT OF 2 TEXTS. -/
import Derived.Test.YtgbabmkclojgeaaGreatDoorRhWithin
import Derived.Test.YtgbabmkclojgeaaGreatDoorReRange
import Derived.OpenShut
/- The law AttitudeWithin answers true at whatever solid and texts. -/
namespace Go.Proofs.YtgbabmkclojgeaaGreatDoor
open Go.RowKit Go.Shelf Go.Sort

attribute [local go_sem] Oper.semAt_some

theorem rng_lo (S : Nat → V3) (a : V3) : ∀ k i, i ≤ k → ¬ dotV (S i) a < (rng S a k).1
  | 0, i, hi => by
    obtain rfl : i = 0 := by omega
    show ¬ dotV (S 0) a < dotV (S 0) a
    grind
  | k + 1, i, hi => by
    have ih := rng_lo S a k
    show ¬ dotV (S i) a < (if cmpQ (dotV (S (k + 1)) a - (rng S a k).1) 0 < 0 then dotV (S (k + 1)) a else (rng S a k).1)
    by_cases hh : cmpQ (dotV (S (k + 1)) a - (rng S a k).1) 0 < 0
    · rw [if_pos hh]
      rw [cmpQ_neg] at hh
      by_cases e : i = k + 1
      · subst e
        grind
      · have h := ih i (by omega)
        grind
    · rw [if_neg hh]
      rw [cmpQ_neg] at hh
      by_cases e : i = k + 1
      · subst e
        grind
      · have h := ih i (by omega)
        grind
theorem rng_hi (S : Nat → V3) (a : V3) : ∀ k i, i ≤ k → ¬ (rng S a k).2 < dotV (S i) a
  | 0, i, hi => by
    obtain rfl : i = 0 := by omega
    show ¬ dotV (S 0) a < dotV (S 0) a
    grind
  | k + 1, i, hi => by
    have ih := rng_hi S a k
    show ¬ (if 0 < cmpQ (dotV (S (k + 1)) a - (rng S a k).2) 0 then dotV (S (k + 1)) a else (rng S a k).2) < dotV (S i) a
    by_cases hh : 0 < cmpQ (dotV (S (k + 1)) a - (rng S a k).2) 0
    · rw [if_pos hh]
      rw [cmpQ_gt] at hh
      by_cases e : i = k + 1
      · subst e
        grind
      · have h := ih i (by omega)
        grind
    · rw [if_neg hh]
      rw [cmpQ_gt] at hh
      by_cases e : i = k + 1
      · subst e
        grind
      · have h := ih i (by omega)
        grind
theorem rng_lo_at (S : Nat → V3) (a : V3) : ∀ k, ∃ i, i ≤ k ∧ (rng S a k).1 = dotV (S i) a
  | 0 => ⟨0, Nat.le_refl _, rfl⟩
  | k + 1 => by
    obtain ⟨i, hi, e⟩ := rng_lo_at S a k
    by_cases h : cmpQ (dotV (S (k + 1)) a - (rng S a k).1) 0 < 0
    · exact ⟨k + 1, Nat.le_refl _, by show (if _ then _ else _) = _; rw [if_pos h]⟩
    · exact ⟨i, by omega, by show (if _ then _ else _) = _; rw [if_neg h]; exact e⟩
theorem rng_hi_at (S : Nat → V3) (a : V3) : ∀ k, ∃ i, i ≤ k ∧ (rng S a k).2 = dotV (S i) a
  | 0 => ⟨0, Nat.le_refl _, rfl⟩
  | k + 1 => by
    obtain ⟨i, hi, e⟩ := rng_hi_at S a k
    by_cases h : 0 < cmpQ (dotV (S (k + 1)) a - (rng S a k).2) 0
    · exact ⟨k + 1, Nat.le_refl _, by show (if _ then _ else _) = _; rw [if_pos h]⟩
    · exact ⟨i, by omega, by show (if _ then _ else _) = _; rw [if_neg h]; exact e⟩

set_option maxRecDepth 100000 in
set_option maxHeartbeats 4000000 in
theorem r16_LessL (x y : Rat) (p d s t : Sl) (w : World) (hx : RQ w p d x) (hy : RQ w s t y) (zx : Sz 20000000 x) (zy : Sz 20000000 y) :
    Calls Tryz.prog 64 #[qW (sgB x.num) p d, qW (sgB y.num) s t] w fun e w' => e = .returned (.bool (decide (cmpQ x y < 0))) ∧ Below w.heap.size w w' := by
  have H0 := Lib.hid (fun W (hb : Below w.heap.size w W) => r3_Cmp x y p d s t W (hx.below hb) (hy.below hb) zx zy)
  clear hx hy zx zy
  generalize cmpQ x y = z at *
  generalize sgB x.num = b1 at *
  generalize sgB y.num = b2 at *
  go_enter Tryz.func64, Tryz.ntmps64
  go_upto_region 1 with fail
  generalize hW : (World.alloc w _).alloc _ = W
  obtain ⟨hB, hsz, R1, R2⟩ := A2 hW
  have R1 := Lib.hid R1
  have R2 := Lib.hid R2
  clear hW hsz
  obtain ⟨R1c0, R1c1, R1c2, R1f0, R1f1, R1f2⟩ := row3 R1.out
  obtain ⟨R2c0, R2c1, R2c2, R2f0, R2f1, R2f2⟩ := row3 R2.out
  go_wp2_with fail
  clear R1c0 R1c1 R1c2 R1f0 R1f1 R1f2
  clear R2c0 R2c1 R2c2 R2f0 R2f1 R2f2
  refine (H0.out _ hB).mono ?_
  rintro e w1 ⟨rfl, hb⟩
  replace hB := bstep hB hb
  clear hb
  go_wp2_with fail
  go_ret
  exact ⟨rfl, hB⟩

theorem la_within (A : Option Addr) (n c : Nat) (T : Nat → ByteArray × ByteArray × ByteArray) (h t : ByteArray) (w : World) (hE : Env w) (hA : A = none → n = 0) (hl : n = 0 ∨ ∃ b o, A = some ⟨b, o, none⟩ ∧ VecsAt w b o (n * 3) T) (hn : n ≤ 9223372036854775807)
    (hT : ∀ i, i < n * 3 → Mx (T i)) (hm : h.size ≤ 9223372036854775807 ∧ t.size ≤ 9223372036854775807) :
    Calls Tryz.prog 12 #[.slice A n c, .agg #[.string h, .string t]] w fun e w' => e = .returned (.bool true) ∧ Below w.heap.size w w' := by
  have hlB : ∀ W, Below w.heap.size w W → (n = 0 ∨ ∃ b o, A = some ⟨b, o, none⟩ ∧ VecsAt W b o (n * 3) T) := fun W hB => hl.imp id fun ⟨b, o, e, h⟩ => ⟨b, o, e, h.below hB⟩
  have hT2 : ∀ W, Env W → Calls Tryz.prog 14 #[.agg #[.string h, .string t]] W fun e w' => e = .returned (.bool (decide (h.size ≤ 40) && decide (t.size ≤ 40))) ∧ Below W.heap.size W w' := fun W _ => r16_ShortA h t W hm.1 hm.2
  have hS : ∀ r, (n = 513 → r = true) → (n ≠ 513 → (∀ i, i < n * 3 → sh40 (T i) = true) → r = decide (n ≤ 24)) → (n ≠ 513 → (∃ i, i < n * 3 ∧ sh40 (T i) = false) → r = false) → ∀ W, Below w.heap.size w W → Calls Tryz.prog 60 #[.slice A n c] W fun e w' => e = .returned (.bool r) ∧ Below W.heap.size W w' := by
    intro r h1 h2 h3 W hB
    by_cases h5 : n = 513
    · exact r16_ShortS_513 A n c r W h5 (h1 h5)
    · by_cases h0 : n = 0
      · refine r16_ShortS_0 A n c r W h0 ?_
        rw [h2 h5 (fun i hi => absurd hi (by omega)), h0]
        rfl
      · rcases hlB W hB with k | ⟨b, o, rfl, k⟩
        · exact absurd k h0
        exact r16_ShortS_run b o n c T r W hn h5 k hT (h2 h5) (h3 h5)
  by_cases h24 : n ≤ 24
  · have h5 : n ≠ 513 := by omega
    by_cases hall : ∀ i, i < n * 3 → sh40 (T i) = true
    · have hs := hS true (fun _ => rfl) (fun _ _ => by rw [decide_eq_true h24]) (fun _ ⟨i, hi, k⟩ => by rw [hall i hi] at k; cases k)
      by_cases ha : h.size ≤ 40 ∧ t.size ≤ 40
      · obtain ⟨s1, s2⟩ := ha
        simp only [decide_eq_true s1, decide_eq_true s2, Bool.and_self] at hT2
        have hcl := fun W hB => la_cloneS A n c T W (by omega) hA (hlB W hB)
        rcases at_ExtentA n T (h, t) h24 hall s1 s2 with ⟨cc, hcc, hx⟩ | ⟨n1, hav, hk, hx⟩
        · exact la16_wit_err A n c h t cc T w hE h24 hcc hs hT2 hcl hx
        · rcases hl with hl | ⟨b, o, rfl, hl⟩
          · omega
          have hsh := fun i (hi : i < n * 3) => sh40_iff.1 (hall i hi)
          have z1 : Sz 41 (rvX h) := sz_rvX s1 (by decide)
          have z2 : Sz 41 (rvX t) := sz_rvX s2 (by decide)
          have zT : ∀ i, i < n * 3 → SzV 41 (vvX (T i)) := fun i hi => ⟨sz_rvX (hsh i hi).1 (by decide), sz_rvX (hsh i hi).2.1 (by decide), sz_rvX (hsh i hi).2.2 (by decide)⟩
          have hU : ∀ m, m < n * 3 → ∀ W, Env W → Calls Tryz.prog 41 #[.agg #[.string h, .string t], txW (T m)] W fun e w' => e = .returned (.tuple #[.agg #[.string (rs (turnV (rvX h) (rvX t) (vvX (T m))).x), .string (rs (turnV (rvX h) (rvX t) (vvX (T m))).y), .string (rs (turnV (rvX h) (rvX t) (vvX (T m))).z)], .int .i64 0]) ∧ Below W.heap.size W w' := by
            intro m hm W hW
            have k := at_TurnA (h, t) (T m) W hW s1 s2 (hsh m hm).1 (hsh m hm).2.1 (hsh m hm).2.2
            rw [Bool.and_eq_true] at hk
            have ha := allB_iff.1 hav m hm
            have ec : acode ((rvB h && rvB t) && vvB (T m)) (inR (rvX h) (rvX t)) = 0 := by rw [hk.1, ha, hk.2]; rfl
            have ek : (((rvB h && rvB t) && vvB (T m)) && inR (rvX h) (rvX t)) = true := by rw [hk.1, ha, hk.2]; rfl
            simp only [ek, ec] at k
            exact k

          have zU : ∀ m, m < n * 3 → SzV (20 * (32 * 41 + 16)) (turnV (rvX h) (rvX t) (vvX (T m))) := fun m hm => szV_turn z1 z2 (zT m hm) (by decide)
          have hFx : ∀ x : Rat, Sz 27000 x → ∀ W, Calls Tryz.prog 43 #[.string (rs x)] W fun e w' => ∃ p d : Sl, e = .returned (.tuple #[qW (sgB x.num) p d, .bool true]) ∧ RQ w' p d x ∧ Below W.heap.size W w' := by
            intro x zx W
            have k := r3_From (rs x) W (by have := rs_size x; have := zx.1; have := zx.2; omega)
            unfold FrP at k
            rw [rvX_rs, rvB_rs] at k
            exact k
          have zax : ∀ ax : V3, SzV (32 * 41 + 16) ax → Sz 27000 (rng (fun i => vvX (T i)) ax (n * 3 - 1)).1 ∧ Sz 27000 (rng (fun i => vvX (T i)) ax (n * 3 - 1)).2 := by
            intro ax zx
            have k := sz_rng (K := 32 * 41 + 16) (n := n * 3) (S := fun i => vvX (T i)) (fun i hi => (zT i hi).mono (by decide)) zx (n * 3 - 1) (by omega)
            exact ⟨k.1.mono (by decide), k.2.mono (by decide)⟩
          have hLs : ∀ x y : Rat, Sz 27000 x → Sz 27000 y → ¬ x < y → ∀ W p d s t, RQ W p d x → RQ W s t y → Calls Tryz.prog 64 #[qW (sgB x.num) p d, qW (sgB y.num) s t] W fun e w' => e = .returned (.bool false) ∧ Below W.heap.size W w' := by
            intro x y zx zy hxy W p d s t hx hy
            have k := r16_LessL x y p d s t W hx hy (zx.mono (by decide)) (zy.mono (by decide))
            rw [decide_eq_false (fun e => hxy (cmpQ_neg.1 e))] at k
            exact k
          have zA := szV_axA z1 z2
          have zS := szV_axS z1 (show 1 ≤ 41 by decide)
          have zU' := szV_axU z1 z2

          have e0 : ∀ m, (turnV (rvX h) (rvX t) (vvX (T m))).x = dotV (vvX (T m)) (axA (rvX h) (rvX t)) := fun m => dotV_comm _ _
          have p0 : ∃ m, m < n * 3 ∧ (rs (turnV (rvX h) (rvX t) (vvX (T m))).x).toList = (rs (rng (fun i => vvX (T i)) (axA (rvX h) (rvX t)) (n * 3 - 1)).1).toList := by
            obtain ⟨i, hi, e⟩ := rng_lo_at (fun i => vvX (T i)) (axA (rvX h) (rvX t)) (n * 3 - 1)
            exact ⟨i, by omega, by rw [e0, e]⟩
          have q0 : ∃ m, m < n * 3 ∧ (rs (turnV (rvX h) (rvX t) (vvX (T m))).x).toList = (rs (rng (fun i => vvX (T i)) (axA (rvX h) (rvX t)) (n * 3 - 1)).2).toList := by
            obtain ⟨i, hi, e⟩ := rng_hi_at (fun i => vvX (T i)) (axA (rvX h) (rvX t)) (n * 3 - 1)
            exact ⟨i, by omega, by rw [e0, e]⟩
          have e1 : ∀ m, (turnV (rvX h) (rvX t) (vvX (T m))).y = dotV (vvX (T m)) (axS (rvX h)) := fun m => dotV_comm _ _
          have p1 : ∃ m, m < n * 3 ∧ (rs (turnV (rvX h) (rvX t) (vvX (T m))).y).toList = (rs (rng (fun i => vvX (T i)) (axS (rvX h)) (n * 3 - 1)).1).toList := by
            obtain ⟨i, hi, e⟩ := rng_lo_at (fun i => vvX (T i)) (axS (rvX h)) (n * 3 - 1)
            exact ⟨i, by omega, by rw [e1, e]⟩
          have q1 : ∃ m, m < n * 3 ∧ (rs (turnV (rvX h) (rvX t) (vvX (T m))).y).toList = (rs (rng (fun i => vvX (T i)) (axS (rvX h)) (n * 3 - 1)).2).toList := by
            obtain ⟨i, hi, e⟩ := rng_hi_at (fun i => vvX (T i)) (axS (rvX h)) (n * 3 - 1)
            exact ⟨i, by omega, by rw [e1, e]⟩
          have e2 : ∀ m, (turnV (rvX h) (rvX t) (vvX (T m))).z = dotV (vvX (T m)) (axU (rvX h) (rvX t)) := fun m => dotV_comm _ _
          have p2 : ∃ m, m < n * 3 ∧ (rs (turnV (rvX h) (rvX t) (vvX (T m))).z).toList = (rs (rng (fun i => vvX (T i)) (axU (rvX h) (rvX t)) (n * 3 - 1)).1).toList := by
            obtain ⟨i, hi, e⟩ := rng_lo_at (fun i => vvX (T i)) (axU (rvX h) (rvX t)) (n * 3 - 1)
            exact ⟨i, by omega, by rw [e2, e]⟩
          have q2 : ∃ m, m < n * 3 ∧ (rs (turnV (rvX h) (rvX t) (vvX (T m))).z).toList = (rs (rng (fun i => vvX (T i)) (axU (rvX h) (rvX t)) (n * 3 - 1)).2).toList := by
            obtain ⟨i, hi, e⟩ := rng_hi_at (fun i => vvX (T i)) (axU (rvX h) (rvX t)) (n * 3 - 1)
            exact ⟨i, by omega, by rw [e2, e]⟩
          exact la16_wit_ok b o n c h t (rs (rng (fun i => vvX (T i)) (axA (rvX h) (rvX t)) (n * 3 - 1)).1) (rs (rng (fun i => vvX (T i)) (axA (rvX h) (rvX t)) (n * 3 - 1)).2) (rs (rng (fun i => vvX (T i)) (axS (rvX h)) (n * 3 - 1)).1) (rs (rng (fun i => vvX (T i)) (axS (rvX h)) (n * 3 - 1)).2) (rs (rng (fun i => vvX (T i)) (axU (rvX h) (rvX t)) (n * 3 - 1)).1) (rs (rng (fun i => vvX (T i)) (axU (rvX h) (rvX t)) (n * 3 - 1)).2) (fun m => rs (turnV (rvX h) (rvX t) (vvX (T m))).x) (fun m => rs (turnV (rvX h) (rvX t) (vvX (T m))).y) (fun m => rs (turnV (rvX h) (rvX t) (vvX (T m))).z) (fun m => (turnV (rvX h) (rvX t) (vvX (T m))).x) (fun m => (turnV (rvX h) (rvX t) (vvX (T m))).y) (fun m => (turnV (rvX h) (rvX t) (vvX (T m))).z) (rng (fun i => vvX (T i)) (axA (rvX h) (rvX t)) (n * 3 - 1)).1 (rng (fun i => vvX (T i)) (axA (rvX h) (rvX t)) (n * 3 - 1)).2 (rng (fun i => vvX (T i)) (axS (rvX h)) (n * 3 - 1)).1 (rng (fun i => vvX (T i)) (axS (rvX h)) (n * 3 - 1)).2 (rng (fun i => vvX (T i)) (axU (rvX h) (rvX t)) (n * 3 - 1)).1 (rng (fun i => vvX (T i)) (axU (rvX h) (rvX t)) (n * 3 - 1)).2 T w hE h24 hl hs hT2 hcl hx hU (fun m hm => hFx _ ((zU m hm).1.mono (by decide))) (hFx _ (zax _ zA).1) (hFx _ (zax _ zA).2) (fun m hm => hLs _ _ ((zU m hm).1.mono (by decide)) (zax _ zA).1 (by rw [e0]; exact rng_lo (fun i => vvX (T i)) (axA (rvX h) (rvX t)) _ m (by omega))) (fun m hm => hLs _ _ (zax _ zA).2 ((zU m hm).1.mono (by decide)) (by rw [e0]; exact rng_hi (fun i => vvX (T i)) (axA (rvX h) (rvX t)) _ m (by omega))) p0 q0 (fun m hm => hFx _ ((zU m hm).2.1.mono (by decide))) (hFx _ (zax _ zS).1) (hFx _ (zax _ zS).2) (fun m hm => hLs _ _ ((zU m hm).2.1.mono (by decide)) (zax _ zS).1 (by rw [e1]; exact rng_lo (fun i => vvX (T i)) (axS (rvX h)) _ m (by omega))) (fun m hm => hLs _ _ (zax _ zS).2 ((zU m hm).2.1.mono (by decide)) (by rw [e1]; exact rng_hi (fun i => vvX (T i)) (axS (rvX h)) _ m (by omega))) p1 q1 (fun m hm => hFx _ ((zU m hm).2.2.mono (by decide))) (hFx _ (zax _ zU').1) (hFx _ (zax _ zU').2) (fun m hm => hLs _ _ ((zU m hm).2.2.mono (by decide)) (zax _ zU').1 (by rw [e2]; exact rng_lo (fun i => vvX (T i)) (axU (rvX h) (rvX t)) _ m (by omega))) (fun m hm => hLs _ _ (zax _ zU').2 ((zU m hm).2.2.mono (by decide)) (by rw [e2]; exact rng_hi (fun i => vvX (T i)) (axU (rvX h) (rvX t)) _ m (by omega))) p2 q2
      · refine la16_wit_no A n c h t true _ w hE (.inr (.inr ?_)) hs hT2
        rw [Bool.eq_false_iff]
        intro q
        rw [Bool.and_eq_true, decide_eq_true_iff, decide_eq_true_iff] at q
        exact ha q
    · have hex : ∃ i, i < n * 3 ∧ sh40 (T i) = false := by
        rcases first_bad (fun i => sh40 (T i)) (n * 3) with k | ⟨i, h1, h2, _⟩
        · exact absurd k hall
        · exact ⟨i, h1, h2⟩
      exact la16_wit_no A n c h t false _ w hE (.inl rfl) (hS false (fun k => absurd k h5) (fun _ k => absurd k hall) (fun _ _ => rfl)) hT2
  · obtain ⟨r, hr1, hr2, hr3⟩ : ∃ r, (n = 513 → r = true) ∧ (n ≠ 513 → (∀ i, i < n * 3 → sh40 (T i) = true) → r = decide (n ≤ 24)) ∧ (n ≠ 513 → (∃ i, i < n * 3 ∧ sh40 (T i) = false) → r = false) := by
      by_cases h5 : n = 513
      · exact ⟨true, fun _ => rfl, fun k => absurd h5 k, fun k => absurd h5 k⟩
      · exact ⟨false, fun k => absurd k h5, fun _ _ => by rw [decide_eq_false h24], fun _ _ => rfl⟩
    exact la16_wit_no A n c h t r _ w hE (.inr (.inl (by omega))) (hS r hr1 hr2 hr3) hT2
end Go.Proofs.YtgbabmkclojgeaaGreatDoor

/- A solid opened. -/
namespace Go.Proofs.YtgbabmkclojgeaaGreatDoor
open Go.ChangeShapes Go.WideShapes Go.ChangeAt Go.ChangeMaps Go.RowKit Go.Deep

theorem cells_tri : Tryz.prog.cellsOf 91 = 9 := by kernel_rfl

section
variable {H : Type} {enc : TypeId × Value → H} {w : World} {base : Nat} {sp : Nat → Bool} {held : Bool}
set_option maxRecDepth 100000 in
theorem vec_strs {n : Nat} {cs : List Value} {x : DataW H × List MemPlace} (hl : cs.length = 3) (h : DataW.trod enc Tryz.prog w base sp held n 28 cs = some x) :
    ∃ s : ByteArray × ByteArray × ByteArray, cs = [.string s.1, .string s.2.1, .string s.2.2] ∧ Mx s := by
  obtain ⟨ys, n', hn', hy, hlen, hyl, hf⟩ := DataW.trod_struct Tryz.underlying28 h
  obtain ⟨v0, v1, v2, rfl⟩ : ∃ v0 v1 v2, cs = [v0, v1, v2] := by
    match cs, hl with
    | [v0, v1, v2], _ => exact ⟨_, _, _, rfl⟩
  obtain ⟨y0, y1, y2, rfl⟩ : ∃ y0 y1 y2, ys = [y0, y1, y2] := by
    match ys, hyl with
    | [y0, y1, y2], _ => exact ⟨_, _, _, rfl⟩
  have k0 : DataW.trod enc Tryz.prog w base sp held n' 22 (List.take (Tryz.prog.cellsOf 22) (List.drop 0 [v0, v1, v2])) = some y0 := hf 0 _ rfl
  have k1 : DataW.trod enc Tryz.prog w base sp held n' 22 (List.take (Tryz.prog.cellsOf 22) (List.drop 1 [v0, v1, v2])) = some y1 := hf 1 _ rfl
  have k2 : DataW.trod enc Tryz.prog w base sp held n' 22 (List.take (Tryz.prog.cellsOf 22) (List.drop 2 [v0, v1, v2])) = some y2 := hf 2 _ rfl
  rw [cells_rat] at k0 k1 k2
  obtain ⟨s0, e0, _, z0⟩ := DataW.trod_string Tryz.underlying22 (show DataW.trod enc Tryz.prog w base sp held n' 22 [v0] = some y0 from k0)
  obtain ⟨s1, e1, _, z1⟩ := DataW.trod_string Tryz.underlying22 (show DataW.trod enc Tryz.prog w base sp held n' 22 [v1] = some y1 from k1)
  obtain ⟨s2, e2, _, z2⟩ := DataW.trod_string Tryz.underlying22 (show DataW.trod enc Tryz.prog w base sp held n' 22 [v2] = some y2 from k2)
  obtain rfl := (List.cons.inj e0).1
  obtain rfl := (List.cons.inj e1).1
  obtain rfl := (List.cons.inj e2).1
  exact ⟨(s0, s1, s2), rfl, Nat.le_trans z0 mx_len, Nat.le_trans z1 mx_len, Nat.le_trans z2 mx_len⟩
set_option maxRecDepth 100000 in
theorem tri_cells {a : Addr} {n : Nat} {cs : List Value} {x : DataW H × List MemPlace} (hc : w.cells? base a 9 = some cs) (h : DataW.trod enc Tryz.prog w base sp held n 91 cs = some x) :
    ∃ S : Nat → ByteArray × ByteArray × ByteArray, ∀ r, r < 3 → w.cell? (a.add (r * 3 + 0)) = some (.string (S r).1) ∧ w.cell? (a.add (r * 3 + 1)) = some (.string (S r).2.1) ∧ w.cell? (a.add (r * 3 + 2)) = some (.string (S r).2.2) ∧ Mx (S r) := by
  obtain ⟨ys, n', hn', hy, hlen, hyl, hf⟩ := DataW.trod_array Tryz.underlying91 h
  obtain ⟨_, hcl, hat⟩ := World.cells?_some hc
  have hS : ∀ r, ∃ s : ByteArray × ByteArray × ByteArray, r < 3 → w.cell? (a.add (r * 3 + 0)) = some (.string s.1) ∧ w.cell? (a.add (r * 3 + 1)) = some (.string s.2.1) ∧ w.cell? (a.add (r * 3 + 2)) = some (.string s.2.2) ∧ Mx s := by
    intro r
    by_cases hr : r < 3
    · have k := hf r hr
      rw [cells_vec] at k
      have hl : ((cs.drop (r * 3)).take 3).length = 3 := by rw [List.length_take, List.length_drop, hcl]; omega
      rw [List.getElem?_eq_getElem (by omega)] at k
      obtain ⟨s, e, hm⟩ := vec_strs hl k
      have at_ : ∀ j, j < 3 → cs[r * 3 + j]? = [Value.string s.1, .string s.2.1, .string s.2.2][j]? := by
        intro j hj
        rw [← e, List.getElem?_take_of_lt hj, List.getElem?_drop]
      exact ⟨s, fun _ => ⟨(hat (r * 3 + 0) (by omega)).trans (at_ 0 (by decide)), (hat (r * 3 + 1) (by omega)).trans (at_ 1 (by decide)), (hat (r * 3 + 2) (by omega)).trans (at_ 2 (by decide)), hm⟩⟩
    · exact ⟨(⟨#[]⟩, ⟨#[]⟩, ⟨#[]⟩), fun k => absurd k hr⟩
  obtain ⟨S, hS⟩ := Classical.axiomOfChoice hS
  exact ⟨S, hS⟩
set_option maxRecDepth 100000 in
theorem open_sol {r : Reach} {b0 : Nat} {v : Value} {d : DataW H} {p : List MemPlace} (hv : Value.okWide Tryz.prog w r b0 83 v) (h : DataW.Trod enc Tryz.prog w base sp held 83 v d p) :
    ∃ (A : Option Addr) (n c : Nat) (T : Nat → ByteArray × ByteArray × ByteArray), v = .slice A n c ∧ (A = none → n = 0) ∧ (n = 0 ∨ ∃ b o, A = some ⟨b, o, none⟩ ∧ VecsAt w b o (n * 3) T) ∧ n ≤ 9223372036854775807 ∧ ∀ i, i < n * 3 → Mx (T i) := by
  obtain ⟨a0, len, cap, rfl⟩ := okWide_slice Tryz.underlying83 hv
  obtain ⟨fuel, hf⟩ := h
  rcases open_slice Tryz.underlying83 hf with ⟨hcs, hx⟩ | ⟨a, len', cap', m, k, D, Pl, hcs, _, hl, hm, hmm, hx, hi⟩
  · simp [Value.cells] at hcs
    obtain ⟨rfl, rfl, rfl⟩ := hcs
    exact ⟨none, 0, 0, fun _ => (⟨#[]⟩, ⟨#[]⟩, ⟨#[]⟩), rfl, fun _ => rfl, .inl rfl, by decide, fun i hi => absurd hi (by omega)⟩
  · simp [Value.cells] at hcs
    obtain ⟨rfl, rfl, rfl⟩ := hcs
    have hle : len ≤ m := by rw [hmm]; split <;> omega
    have hT : ∀ i, ∃ s : Nat → ByteArray × ByteArray × ByteArray, i < len → ∀ r, r < 3 → w.cell? (a.add (i * 9 + (r * 3 + 0))) = some (.string (s r).1) ∧ w.cell? (a.add (i * 9 + (r * 3 + 1))) = some (.string (s r).2.1) ∧ w.cell? (a.add (i * 9 + (r * 3 + 2))) = some (.string (s r).2.2) ∧ Mx (s r) := by
      intro i
      by_cases hlt : i < len
      · obtain ⟨cs', h1, h2⟩ := hi i (by omega)
        rw [cells_tri] at h1
        obtain ⟨S, hS⟩ := tri_cells h1 h2
        refine ⟨S, fun _ r hr => ?_⟩
        have k := hS r hr
        rw [add_add, add_add, add_add] at k
        exact k
      · exact ⟨fun _ => (⟨#[]⟩, ⟨#[]⟩, ⟨#[]⟩), fun k => absurd k hlt⟩
    obtain ⟨U, hU⟩ := Classical.axiomOfChoice hT
    have hcap : len ≤ 9223372036854775807 := Nat.le_trans hl (Nat.le_trans hm mx_len)
    by_cases h0 : len = 0
    · subst h0
      exact ⟨some a, 0, cap, fun j => U (j / 3) (j % 3), rfl, fun _ => rfl, .inl rfl, by decide, fun i hi => absurd hi (by omega)⟩
    · obtain ⟨b, o, spot⟩ := a
      have h00 := (hU 0 (by omega) 0 (by decide)).1
      have hspot : spot = none := by simpa [Addr.add] using World.cell?_spot h00
      subst hspot
      refine ⟨some ⟨b, o, none⟩, len, cap, fun j => U (j / 3) (j % 3), rfl, fun k => (by cases k), .inr ⟨b, o, rfl, fun j hj => ?_⟩, hcap, fun j hj => (hU (j / 3) (by omega) (j % 3) (by omega)).2.2.2⟩
      obtain ⟨c0, c1, c2, _⟩ := hU (j / 3) (by omega) (j % 3) (by omega)
      rw [Addr.add_mid] at c0 c1 c2
      rw [show o + j * 3 = o + (j / 3 * 9 + (j % 3 * 3 + 0)) by omega]
      refine ⟨c0, ?_, ?_⟩
      · rw [show o + (j / 3 * 9 + (j % 3 * 3 + 0)) + 1 = o + (j / 3 * 9 + (j % 3 * 3 + 1)) by omega]; exact c1
      · rw [show o + (j / 3 * 9 + (j % 3 * 3 + 0)) + 2 = o + (j / 3 * 9 + (j % 3 * 3 + 2)) by omega]; exact c2
end
end Go.Proofs.YtgbabmkclojgeaaGreatDoor
