/- A PART OF THE PROOF, JOINED OUT OF 2 TEXTS. -/
import Derived.Test.YtgbabmkclojgeaaGreatDoorRgExtent
import Derived.Test.YtgbabmkclojgeaaGreatDoorQwAttitude
/- The law AttitudeWithin: the walks up to Extent, and its errors. -/
namespace Go.Proofs.YtgbabmkclojgeaaGreatDoor
open Go.RowKit Go.Shelf Go.Sort

attribute [local go_sem] Oper.semAt_some

theorem end6 {V Y : World} {r : Nat} {x0 x1 x2 x3 x4 x5 : Value} {t : TypeId} (hv : Below V.heap.size V Y) (hr : Y.heap[r]? = some (.cells #[x0, x1, x2, x3, x4, x5] t (0, 0))) (hle : V.heap.size ≤ r) (a b c d e f : Value) :
    ((((((Y.setCell ⟨r, 0, none⟩ a).setCell ⟨r, 1, none⟩ b).setCell ⟨r, 2, none⟩ c).setCell ⟨r, 3, none⟩ d).setCell ⟨r, 4, none⟩ e).setCell ⟨r, 5, none⟩ f).heap[r]? = some (.cells #[a, b, c, d, e, f] t (0, 0)) ∧ Below V.heap.size V ((((((Y.setCell ⟨r, 0, none⟩ a).setCell ⟨r, 1, none⟩ b).setCell ⟨r, 2, none⟩ c).setCell ⟨r, 3, none⟩ d).setCell ⟨r, 4, none⟩ e).setCell ⟨r, 5, none⟩ f) :=
  ⟨store6 hr _ _ _ _ _ _, store6_below hv hle _ _ _ _ _ _⟩
theorem spot_guard : Tryz.prog.eqGuardType Tryz.prog.depth 86 = false := by kernel_rfl
theorem spot_eq0 (w : World) : (Op.equalIn 10000 86 (.agg #[.string ⟨#[]⟩, .string ⟨#[]⟩, .string ⟨#[]⟩, .string ⟨#[]⟩, .string ⟨#[]⟩, .string ⟨#[]⟩]) (.agg #[.string ⟨#[]⟩, .string ⟨#[]⟩, .string ⟨#[]⟩, .string ⟨#[]⟩, .string ⟨#[]⟩, .string ⟨#[]⟩])).run Tryz.prog w = .ok true w := by kernel_rfl
attribute [local go_sem] spot_guard spot_eq0


set_option maxRecDepth 100000 in
set_option maxHeartbeats 4000000 in
theorem la16_wit_no (A : Option Addr) (n c : Nat) (h t : ByteArray) (r1 r2 : Bool) (w : World) (hE : Env w) (hr : r1 = false ∨ 24 < n ∨ r2 = false)
    (hs : ∀ W, Below w.heap.size w W → Calls Tryz.prog 60 #[.slice A n c] W fun e w' => e = .returned (.bool r1) ∧ Below W.heap.size W w')
    (ht : ∀ W, Env W → Calls Tryz.prog 14 #[.agg #[.string h, .string t]] W fun e w' => e = .returned (.bool r2) ∧ Below W.heap.size W w') :
    Calls Tryz.prog 12 #[.slice A n c, .agg #[.string h, .string t]] w fun e w' => e = .returned (.bool true) ∧ Below w.heap.size w w' := by
  have H0 := Lib.hid (fun w hE => la16_awake w hE)
  have HS := Lib.hid hs
  have HT := Lib.hid ht
  have HE := Lib.hid hE
  clear hE hs ht
  have HR := Lib.hid hr
  clear hr
  cases r1
  · clear HR
    go_enter Tryz.func12, Tryz.ntmps12
    go_wp2_with fail
    generalize hW : World.alloc w _ = W
    obtain ⟨hB, hsz, R3⟩ := A1 hW
    have R3 := Lib.hid R3
    clear hW hsz
    refine (H0.out _ (HE.out.below hB)).mono ?_
    rintro e w1 ⟨rfl, hb⟩
    replace hB := bstep hB hb
    have R3 := Lib.hid (keep hb R3.out)
    clear hb
    go_wp2_with fail
    refine (HS.out _ hB).mono ?_
    rintro e w2 ⟨rfl, hb⟩
    replace hB := bstep hB hb
    have R3 := Lib.hid (keep hb R3.out)
    clear hb
    go_wp2_with fail
    go_ret
    exact ⟨rfl, hB⟩
  · by_cases h24' : 24 < n
    · have h24 : decide ((24 : Int) < (n : Int)) = true := by rw [decide_eq_true_iff]; omega
      clear HR h24'
      go_enter Tryz.func12, Tryz.ntmps12
      go_wp2_with fail
      generalize hW : World.alloc w _ = W
      obtain ⟨hB, hsz, R3⟩ := A1 hW
      have R3 := Lib.hid R3
      clear hW hsz
      refine (H0.out _ (HE.out.below hB)).mono ?_
      rintro e w1 ⟨rfl, hb⟩
      replace hB := bstep hB hb
      have R3 := Lib.hid (keep hb R3.out)
      clear hb
      go_wp2_with fail
      refine (HS.out _ hB).mono ?_
      rintro e w2 ⟨rfl, hb⟩
      replace hB := bstep hB hb
      have R3 := Lib.hid (keep hb R3.out)
      clear hb
      go_wp2_with fail
      go_ret
      exact ⟨rfl, hB⟩
    · have h24 : decide ((24 : Int) < (n : Int)) = false := by rw [decide_eq_false_iff_not]; omega
      obtain rfl : r2 = false := by
        rcases HR.out with h | h | h
        · cases h
        · exact absurd h h24'
        · exact h
      clear HR h24'
      go_enter Tryz.func12, Tryz.ntmps12
      go_wp2_with fail
      generalize hW : World.alloc w _ = W
      obtain ⟨hB, hsz, R3⟩ := A1 hW
      have R3 := Lib.hid R3
      clear hW hsz
      refine (H0.out _ (HE.out.below hB)).mono ?_
      rintro e w1 ⟨rfl, hb⟩
      replace hB := bstep hB hb
      have R3 := Lib.hid (keep hb R3.out)
      clear hb
      go_wp2_with fail
      refine (HS.out _ hB).mono ?_
      rintro e w2 ⟨rfl, hb⟩
      replace hB := bstep hB hb
      have R3 := Lib.hid (keep hb R3.out)
      clear hb
      obtain ⟨c0, c1, f0, f1⟩ := row2 R3.out
      go_wp2_with fail
      clear c0 c1 f0 f1
      refine (HT.out _ (HE.out.below hB)).mono ?_
      rintro e w3 ⟨rfl, hb⟩
      replace hB := bstep hB hb
      have R3 := Lib.hid (keep hb R3.out)
      clear hb
      go_wp2_with fail
      go_ret
      exact ⟨rfl, hB⟩


set_option maxRecDepth 100000 in
set_option maxHeartbeats 4000000 in
theorem la16_wit_err (A : Option Addr) (n c : Nat) (h t : ByteArray) (cc : Int) (T : Nat → ByteArray × ByteArray × ByteArray) (w : World) (hE : Env w) (hn : n ≤ 24) (hc1 : (cc != 0) = true)
    (hs : ∀ W, Below w.heap.size w W → Calls Tryz.prog 60 #[.slice A n c] W fun e w' => e = .returned (.bool true) ∧ Below W.heap.size W w')
    (ht : ∀ W, Env W → Calls Tryz.prog 14 #[.agg #[.string h, .string t]] W fun e w' => e = .returned (.bool true) ∧ Below W.heap.size W w')
    (hcl : ∀ W, Below w.heap.size w W → Calls Tryz.prog 62 #[.slice A n c] W fun e w' => ∃ v', e = .returned v' ∧ SolAt w' v' n T ∧ Below W.heap.size W w')
    (hx : ∀ W v, Env W → SolAt W v n T → Calls Tryz.prog 61 #[v, .agg #[.string h, .string t]] W fun e w' => e = .returned (.tuple #[.agg #[.string ⟨#[]⟩, .string ⟨#[]⟩, .string ⟨#[]⟩, .string ⟨#[]⟩, .string ⟨#[]⟩, .string ⟨#[]⟩], .int .i64 cc]) ∧ Below W.heap.size W w') :
    Calls Tryz.prog 12 #[.slice A n c, .agg #[.string h, .string t]] w fun e w' => e = .returned (.bool true) ∧ Below w.heap.size w w' := by
  have H0 := Lib.hid (fun w hE => la16_awake w hE)
  have HS := Lib.hid hs
  have HT := Lib.hid ht
  have HCL := Lib.hid hcl
  have HX := Lib.hid hx
  have HE := Lib.hid hE
  clear hE hs ht hcl hx
  have h24 : decide ((24 : Int) < (n : Int)) = false := by rw [decide_eq_false_iff_not]; omega
  go_enter Tryz.func12, Tryz.ntmps12
  go_wp2_with fail
  generalize hW : World.alloc w _ = W
  obtain ⟨hB, hsz, R3⟩ := A1 hW
  have R3 := Lib.hid R3
  clear hW hsz
  refine (H0.out _ (HE.out.below hB)).mono ?_
  rintro e w1 ⟨rfl, hb⟩
  replace hB := bstep hB hb
  have R3 := Lib.hid (keep hb R3.out)
  clear hb
  go_wp2_with fail
  refine (HS.out _ hB).mono ?_
  rintro e w2 ⟨rfl, hb⟩
  replace hB := bstep hB hb
  have R3 := Lib.hid (keep hb R3.out)
  clear hb
  obtain ⟨c0, c1, f0, f1⟩ := row2 R3.out
  go_wp2_with fail
  clear c0 c1 f0 f1
  refine (HT.out _ (HE.out.below hB)).mono ?_
  rintro e w3 ⟨rfl, hb⟩
  replace hB := bstep hB hb
  have R3 := Lib.hid (keep hb R3.out)
  clear hb
  go_upto_region 5 with fail
  have T1 := Lib.hid (fun W (hb : Below w3.heap.size w3 W) => HCL.out W (bstep hB hb))
  have T2 := Lib.hid (fun W (hb : Below w3.heap.size w3 W) v' (k : SolAt W v' n T) => HX.out W v' (HE.out.below (bstep hB hb)) k)
  clear HS HT HCL HX H0
  go_cut [5, 6] (fun x y wc => ∃ (i : Nat), x = .pointer (some ⟨i, 0, none⟩) ∧ y = .int .i64 cc ∧ Hid (wc.heap[i]? = some (.cells #[.string ⟨#[]⟩, .string ⟨#[]⟩, .string ⟨#[]⟩, .string ⟨#[]⟩, .string ⟨#[]⟩, .string ⟨#[]⟩] 86 (0, 0))) ∧ Hid (Below w3.heap.size w3 wc))
  case first =>
    have LR3 := fun (w' : World) (h : Ap w3.heap.size w3.heap.size w3 w') => rowc2 (h.rowV R3.out)
    have hvr := Below.refl w3.heap.size w3
    have hv0 := hvr.drew
    first
    | go_region_held3 (fun w' => Ap w3.heap.size w3.heap.size w3 w') (first | (with_reducible assumption) | (with_reducible exact Ap.refl _ _ _) | ((repeat (first | with_reducible assumption | with_reducible exact Ap.refl _ _ _ | with_reducible refine Ap.drew ?_ | with_reducible refine Ap.alloc ?_ | with_reducible refine Ap.set1 ?_ | with_reducible refine Ap.set2 ?_ | with_reducible refine Ap.setN (by first | with_reducible assumption | with_reducible exact Nat.le_refl _ | with_reducible exact Nat.le_add_right _ _ | with_reducible exact Nat.le_trans (by assumption) (Nat.le_add_right _ _)) ?_)); done))
        (first
          | (go_at_call 62; (with_reducible refine (T1.out _ (by first | with_reducible exact hv0 | with_reducible exact bstep hv0 (A1 rfl).1 | with_reducible exact (bstep hv0 (A1 rfl).1).drew | with_reducible exact (bstep hvr (A1 rfl).1).drew)).mono ?_); rintro e wq0 ⟨vc, rfl, hk_c, hb⟩; have hv1 : Below w3.heap.size w3 wq0 := (by first | with_reducible exact bstep (hv0) hb | with_reducible exact bstep (bstep hv0 (A1 rfl).1) hb | with_reducible exact bstep ((bstep hv0 (A1 rfl).1).drew) hb | with_reducible exact bstep ((bstep hvr (A1 rfl).1).drew) hb); have hs1 := Ap.of_below (g := w3.heap.size) (h := w3.heap.size) hv1; have sz1 := hv1.size; (first | (have RN0 : RowKit.Hid (wq0.heap[w3.heap.size]? = some (.cells #[.string ⟨#[]⟩, .string ⟨#[]⟩, .string ⟨#[]⟩, .string ⟨#[]⟩, .string ⟨#[]⟩, .string ⟨#[]⟩] 86 (0, 0))) := Lib.hid (by first | exact one_new hb | exact one_newD hb)) | skip); (first | (have RNg := lt_of_row RN0.out; have RNh := Nat.ne_of_lt RNg; have RNi := Nat.ne_of_gt RNg) | skip); have KC := Lib.hid hk_c; clear hk_c; clear hb)
          | (go_at_call 61; (with_reducible refine (T2.out _ (by first | with_reducible exact hv1 | with_reducible exact bstep hv1 (A1 rfl).1 | with_reducible exact (bstep hv1 (A1 rfl).1).drew | with_reducible exact (bstep hvr (A1 rfl).1).drew) vc (by first | with_reducible exact KC.out | with_reducible exact (KC.out.below (Below.drew (Below.refl _ _))) | with_reducible exact (KC.out.below (A1 rfl).1) | with_reducible exact ((KC.out.below (A1 rfl).1).below (Below.drew (Below.refl _ _))))).mono ?_); rintro e wq1 ⟨rfl, hb⟩; have hv2 : Below w3.heap.size w3 wq1 := (by first | with_reducible exact bstep (hv1) hb | with_reducible exact bstep (bstep hv1 (A1 rfl).1) hb | with_reducible exact bstep ((bstep hv1 (A1 rfl).1).drew) hb | with_reducible exact bstep ((bstep hvr (A1 rfl).1).drew) hb); have hs2 := Ap.of_below (g := w3.heap.size) (h := w3.heap.size) hv2; have sz2 := hv2.size; have KC := Lib.hid (by first | with_reducible exact KC.out.below hb | with_reducible exact (KC.out.below (Below.drew (Below.refl _ _))).below hb | with_reducible exact (KC.out.below (A1 rfl).1).below hb | with_reducible exact ((KC.out.below (A1 rfl).1).below (Below.drew (Below.refl _ _))).below hb); (first | (with_reducible have RN0 := Lib.hid (keep hb RN0.out)) | (with_reducible have RN0 := Lib.hid (keep hb (old1 RN0.out))) | skip); (first | (have RN1 : RowKit.Hid (wq1.heap[wq0.heap.size]? = some (.cells #[.string ⟨#[]⟩, .string ⟨#[]⟩, .string ⟨#[]⟩, .string ⟨#[]⟩, .string ⟨#[]⟩, .string ⟨#[]⟩] 86 (0, 0))) := Lib.hid (by first | exact one_new hb | exact one_newD hb)) | skip); (first | (have RNg := lt_of_row RN1.out; have RNh := Nat.ne_of_lt RNg; have RNi := Nat.ne_of_gt RNg) | skip); (first | (have RNx := row6f RN0.out; obtain ⟨RNf00, RNf01, RNf02, RNf03, RNf04, RNf05, RNf06, RNf07, RNf08, RNf09, RNf010, RNf011⟩ := RNx) | skip); (first | (have RNx := row6f RN1.out; obtain ⟨RNf10, RNf11, RNf12, RNf13, RNf14, RNf15, RNf16, RNf17, RNf18, RNf19, RNf110, RNf111⟩ := RNx) | skip); clear hb))
    | fail
    all_goals
      go_wp2_with fail
      go_meet
      first
      | (have E := endN2 hv2 (.cells #[.string ⟨#[]⟩, .string ⟨#[]⟩, .string ⟨#[]⟩, .string ⟨#[]⟩, .string ⟨#[]⟩, .string ⟨#[]⟩] 86 (0, 0)); with_reducible exact ⟨_, rfl, rfl, Lib.hid E.1, Lib.hid E.2⟩)
      | (have E := end6 hv2 RN0.out (by first | exact Nat.le_refl _ | assumption) (.string ⟨#[]⟩) (.string ⟨#[]⟩) (.string ⟨#[]⟩) (.string ⟨#[]⟩) (.string ⟨#[]⟩) (.string ⟨#[]⟩); with_reducible exact ⟨_, rfl, rfl, Lib.hid E.1, Lib.hid E.2⟩)
      | (have E := end6 hv2 RN1.out (by first | exact Nat.le_refl _ | assumption) (.string ⟨#[]⟩) (.string ⟨#[]⟩) (.string ⟨#[]⟩) (.string ⟨#[]⟩) (.string ⟨#[]⟩) (.string ⟨#[]⟩); with_reducible exact ⟨_, rfl, rfl, Lib.hid E.1, Lib.hid E.2⟩)
  case rest =>
    obtain ⟨i5, rfl, rfl, R5, hbw⟩ := hcut
    have hb := hbw.out
    have R3 := Lib.hid (keep hb R3.out)
    replace hB := bstep hB hb
    clear hb hbw T1 T2
    obtain ⟨c0, c1, c2, c3, c4, c5⟩ := rowc6 R5.out
    go_wp2_with fail
    go_ret
    exact ⟨rfl, hB⟩

end Go.Proofs.YtgbabmkclojgeaaGreatDoor

/- The law AttitudeWithin: the loops over triangles, vertices and coordinates. -/
namespace Go.Proofs.YtgbabmkclojgeaaGreatDoor
open Go.RowKit Go.Shelf Go.Sort

attribute [local go_sem] Oper.semAt_some

/-- Whatever of the first m texts is L, it has been met. -/
def Hit (C : Nat → ByteArray) (L : ByteArray) (m : Nat) (b : Bool) : Prop := ∀ v, v < m → (C v).toList = L.toList → b = true
theorem Hit.zero (C : Nat → ByteArray) (L : ByteArray) (b : Bool) : Hit C L 0 b := fun v hv => absurd hv (by omega)
theorem Hit.yes (C : Nat → ByteArray) (L : ByteArray) (m : Nat) : Hit C L m true := fun _ _ _ => rfl
theorem Hit.step {C : Nat → ByteArray} {L : ByteArray} {m : Nat} {b : Bool} (h : Hit C L m b) {e : Bool} (he : (C m).toList = L.toList → (b || e) = true) : Hit C L (m + 1) (b || e) := by
  intro v hv hc
  by_cases k : v = m
  · subst k
    exact he hc
  · rw [h v (by omega) hc]
    rfl
theorem Hit.all {C : Nat → ByteArray} {L : ByteArray} {m : Nat} {b : Bool} (h : Hit C L m b) (hp : ∃ v, v < m ∧ (C v).toList = L.toList) : b = true := by
  obtain ⟨v, h1, h2⟩ := hp
  exact h v h1 h2
theorem six_guard : Tryz.prog.eqGuardType Tryz.prog.depth 93 = false := by kernel_rfl
theorem six_eq (w : World) : (Op.equalIn 10000 93 (.agg #[.bool true, .bool true, .bool true, .bool true, .bool true, .bool true]) (.agg #[.bool true, .bool true, .bool true, .bool true, .bool true, .bool true])).run Tryz.prog w = .ok true w := by kernel_rfl
attribute [local go_sem] six_guard six_eq


set_option maxRecDepth 100000 in
set_option maxHeartbeats 32000000 in
theorem la16_wit_ok (b o n c : Nat) (h t L0 U0 L1 U1 L2 U2 : ByteArray) (C0 C1 C2 : Nat → ByteArray) (X0 X1 X2 : Nat → Rat) (l0 u0 l1 u1 l2 u2 : Rat) (T : Nat → ByteArray × ByteArray × ByteArray) (w : World) (hE : Env w) (hn : n ≤ 24) (hA : VecsAt w b o (n * 3) T)
    (hs : ∀ W, Below w.heap.size w W → Calls Tryz.prog 60 #[.slice (some ⟨b, o, none⟩) n c] W fun e w' => e = .returned (.bool true) ∧ Below W.heap.size W w')
    (ht : ∀ W, Env W → Calls Tryz.prog 14 #[.agg #[.string h, .string t]] W fun e w' => e = .returned (.bool true) ∧ Below W.heap.size W w')
    (hcl : ∀ W, Below w.heap.size w W → Calls Tryz.prog 62 #[.slice (some ⟨b, o, none⟩) n c] W fun e w' => ∃ v', e = .returned v' ∧ SolAt w' v' n T ∧ Below W.heap.size W w')
    (hx : ∀ W v, Env W → SolAt W v n T → Calls Tryz.prog 61 #[v, .agg #[.string h, .string t]] W fun e w' => e = .returned (.tuple #[.agg #[.string L0, .string U0, .string L1, .string U1, .string L2, .string U2], .int .i64 0]) ∧ Below W.heap.size W w')
    (htn : ∀ m, m < n * 3 → ∀ W, Env W → Calls Tryz.prog 41 #[.agg #[.string h, .string t], txW (T m)] W fun e w' => e = .returned (.tuple #[.agg #[.string (C0 m), .string (C1 m), .string (C2 m)], .int .i64 0]) ∧ Below W.heap.size W w')
    (hf0 : ∀ m, m < n * 3 → ∀ W, Calls Tryz.prog 43 #[.string (C0 m)] W fun e w' => ∃ p d : Sl, e = .returned (.tuple #[qW (sgB (X0 m).num) p d, .bool true]) ∧ RQ w' p d (X0 m) ∧ Below W.heap.size W w')
    (hl0 : ∀ W, Calls Tryz.prog 43 #[.string L0] W fun e w' => ∃ p d : Sl, e = .returned (.tuple #[qW (sgB l0.num) p d, .bool true]) ∧ RQ w' p d l0 ∧ Below W.heap.size W w')
    (hu0 : ∀ W, Calls Tryz.prog 43 #[.string U0] W fun e w' => ∃ p d : Sl, e = .returned (.tuple #[qW (sgB u0.num) p d, .bool true]) ∧ RQ w' p d u0 ∧ Below W.heap.size W w')
    (ha0 : ∀ m, m < n * 3 → ∀ W p d s t, RQ W p d (X0 m) → RQ W s t l0 → Calls Tryz.prog 64 #[qW (sgB (X0 m).num) p d, qW (sgB l0.num) s t] W fun e w' => e = .returned (.bool false) ∧ Below W.heap.size W w')
    (hb0 : ∀ m, m < n * 3 → ∀ W p d s t, RQ W p d u0 → RQ W s t (X0 m) → Calls Tryz.prog 64 #[qW (sgB u0.num) p d, qW (sgB (X0 m).num) s t] W fun e w' => e = .returned (.bool false) ∧ Below W.heap.size W w')
    (hp0 : ∃ m, m < n * 3 ∧ (C0 m).toList = L0.toList)
    (hq0 : ∃ m, m < n * 3 ∧ (C0 m).toList = U0.toList)
    (hf1 : ∀ m, m < n * 3 → ∀ W, Calls Tryz.prog 43 #[.string (C1 m)] W fun e w' => ∃ p d : Sl, e = .returned (.tuple #[qW (sgB (X1 m).num) p d, .bool true]) ∧ RQ w' p d (X1 m) ∧ Below W.heap.size W w')
    (hl1 : ∀ W, Calls Tryz.prog 43 #[.string L1] W fun e w' => ∃ p d : Sl, e = .returned (.tuple #[qW (sgB l1.num) p d, .bool true]) ∧ RQ w' p d l1 ∧ Below W.heap.size W w')
    (hu1 : ∀ W, Calls Tryz.prog 43 #[.string U1] W fun e w' => ∃ p d : Sl, e = .returned (.tuple #[qW (sgB u1.num) p d, .bool true]) ∧ RQ w' p d u1 ∧ Below W.heap.size W w')
    (ha1 : ∀ m, m < n * 3 → ∀ W p d s t, RQ W p d (X1 m) → RQ W s t l1 → Calls Tryz.prog 64 #[qW (sgB (X1 m).num) p d, qW (sgB l1.num) s t] W fun e w' => e = .returned (.bool false) ∧ Below W.heap.size W w')
    (hb1 : ∀ m, m < n * 3 → ∀ W p d s t, RQ W p d u1 → RQ W s t (X1 m) → Calls Tryz.prog 64 #[qW (sgB u1.num) p d, qW (sgB (X1 m).num) s t] W fun e w' => e = .returned (.bool false) ∧ Below W.heap.size W w')
    (hp1 : ∃ m, m < n * 3 ∧ (C1 m).toList = L1.toList)
    (hq1 : ∃ m, m < n * 3 ∧ (C1 m).toList = U1.toList)
    (hf2 : ∀ m, m < n * 3 → ∀ W, Calls Tryz.prog 43 #[.string (C2 m)] W fun e w' => ∃ p d : Sl, e = .returned (.tuple #[qW (sgB (X2 m).num) p d, .bool true]) ∧ RQ w' p d (X2 m) ∧ Below W.heap.size W w')
    (hl2 : ∀ W, Calls Tryz.prog 43 #[.string L2] W fun e w' => ∃ p d : Sl, e = .returned (.tuple #[qW (sgB l2.num) p d, .bool true]) ∧ RQ w' p d l2 ∧ Below W.heap.size W w')
    (hu2 : ∀ W, Calls Tryz.prog 43 #[.string U2] W fun e w' => ∃ p d : Sl, e = .returned (.tuple #[qW (sgB u2.num) p d, .bool true]) ∧ RQ w' p d u2 ∧ Below W.heap.size W w')
    (ha2 : ∀ m, m < n * 3 → ∀ W p d s t, RQ W p d (X2 m) → RQ W s t l2 → Calls Tryz.prog 64 #[qW (sgB (X2 m).num) p d, qW (sgB l2.num) s t] W fun e w' => e = .returned (.bool false) ∧ Below W.heap.size W w')
    (hb2 : ∀ m, m < n * 3 → ∀ W p d s t, RQ W p d u2 → RQ W s t (X2 m) → Calls Tryz.prog 64 #[qW (sgB u2.num) p d, qW (sgB (X2 m).num) s t] W fun e w' => e = .returned (.bool false) ∧ Below W.heap.size W w')
    (hp2 : ∃ m, m < n * 3 ∧ (C2 m).toList = L2.toList)
    (hq2 : ∃ m, m < n * 3 ∧ (C2 m).toList = U2.toList) :
    Calls Tryz.prog 12 #[.slice (some ⟨b, o, none⟩) n c, .agg #[.string h, .string t]] w fun e w' => e = .returned (.bool true) ∧ Below w.heap.size w w' := by
  have H0 := Lib.hid (fun w hE => la16_awake w hE)
  have HS := Lib.hid hs
  have HT := Lib.hid ht
  have HCL := Lib.hid hcl
  have HX := Lib.hid hx
  have HTN := Lib.hid htn
  have HF0 := Lib.hid hf0
  have HL0 := Lib.hid hl0
  have HU0 := Lib.hid hu0
  have HA0 := Lib.hid ha0
  have HB0 := Lib.hid hb0
  have HP0 := Lib.hid hp0
  have HQ0 := Lib.hid hq0
  have HF1 := Lib.hid hf1
  have HL1 := Lib.hid hl1
  have HU1 := Lib.hid hu1
  have HA1 := Lib.hid ha1
  have HB1 := Lib.hid hb1
  have HP1 := Lib.hid hp1
  have HQ1 := Lib.hid hq1
  have HF2 := Lib.hid hf2
  have HL2 := Lib.hid hl2
  have HU2 := Lib.hid hu2
  have HA2 := Lib.hid ha2
  have HB2 := Lib.hid hb2
  have HP2 := Lib.hid hp2
  have HQ2 := Lib.hid hq2
  have HE := Lib.hid hE
  clear hE hs ht hcl hx htn hf0 hl0 hu0 ha0 hb0 hp0 hq0 hf1 hl1 hu1 ha1 hb1 hp1 hq1 hf2 hl2 hu2 ha2 hb2 hp2 hq2
  have HA := Lib.hid hA
  have h24 : decide ((24 : Int) < (n : Int)) = false := by rw [decide_eq_false_iff_not]; omega
  clear hA
  go_enter Tryz.func12, Tryz.ntmps12
  go_wp2_with fail
  generalize hW : World.alloc w _ = W
  obtain ⟨hB, hsz, R3⟩ := A1 hW
  have R3 := Lib.hid R3
  clear hW hsz
  refine (H0.out _ (HE.out.below hB)).mono ?_
  rintro e w1 ⟨rfl, hb⟩
  replace hB := bstep hB hb
  have R3 := Lib.hid (keep hb R3.out)
  clear hb
  go_wp2_with fail
  refine (HS.out _ hB).mono ?_
  rintro e w2 ⟨rfl, hb⟩
  replace hB := bstep hB hb
  have R3 := Lib.hid (keep hb R3.out)
  clear hb
  obtain ⟨c0, c1, f0, f1⟩ := row2 R3.out
  go_wp2_with fail
  clear c0 c1 f0 f1
  refine (HT.out _ (HE.out.below hB)).mono ?_
  rintro e w3 ⟨rfl, hb⟩
  replace hB := bstep hB hb
  have R3 := Lib.hid (keep hb R3.out)
  clear hb
  go_upto_region 5 with fail
  have T1 := Lib.hid (fun W (hb : Below w3.heap.size w3 W) => HCL.out W (bstep hB hb))
  have T2 := Lib.hid (fun W (hb : Below w3.heap.size w3 W) v' (k : SolAt W v' n T) => HX.out W v' (HE.out.below (bstep hB hb)) k)
  clear HS HT HCL HX H0
  go_cut [5, 6] (fun x y wc => ∃ (i : Nat), x = .pointer (some ⟨i, 0, none⟩) ∧ y = .int .i64 0 ∧ Hid (wc.heap[i]? = some (.cells #[.string L0, .string U0, .string L1, .string U1, .string L2, .string U2] 86 (0, 0))) ∧ Hid (Below w3.heap.size w3 wc))
  case first =>
    have LR3 := fun (w' : World) (h : Ap w3.heap.size w3.heap.size w3 w') => rowc2 (h.rowV R3.out)
    have hvr := Below.refl w3.heap.size w3
    have hv0 := hvr.drew
    first
    | go_region_held3 (fun w' => Ap w3.heap.size w3.heap.size w3 w') (first | (with_reducible assumption) | (with_reducible exact Ap.refl _ _ _) | ((repeat (first | with_reducible assumption | with_reducible exact Ap.refl _ _ _ | with_reducible refine Ap.drew ?_ | with_reducible refine Ap.alloc ?_ | with_reducible refine Ap.set1 ?_ | with_reducible refine Ap.set2 ?_ | with_reducible refine Ap.setN (by first | with_reducible assumption | with_reducible exact Nat.le_refl _ | with_reducible exact Nat.le_add_right _ _ | with_reducible exact Nat.le_trans (by assumption) (Nat.le_add_right _ _)) ?_)); done))
        (first
          | (go_at_call 62; (with_reducible refine (T1.out _ (by first | with_reducible exact hv0 | with_reducible exact bstep hv0 (A1 rfl).1 | with_reducible exact (bstep hv0 (A1 rfl).1).drew | with_reducible exact (bstep hvr (A1 rfl).1).drew)).mono ?_); rintro e wq0 ⟨vc, rfl, hk_c, hb⟩; have hv1 : Below w3.heap.size w3 wq0 := (by first | with_reducible exact bstep (hv0) hb | with_reducible exact bstep (bstep hv0 (A1 rfl).1) hb | with_reducible exact bstep ((bstep hv0 (A1 rfl).1).drew) hb | with_reducible exact bstep ((bstep hvr (A1 rfl).1).drew) hb); have hs1 := Ap.of_below (g := w3.heap.size) (h := w3.heap.size) hv1; have sz1 := hv1.size; (first | (have RN0 : RowKit.Hid (wq0.heap[w3.heap.size]? = some (.cells #[.string ⟨#[]⟩, .string ⟨#[]⟩, .string ⟨#[]⟩, .string ⟨#[]⟩, .string ⟨#[]⟩, .string ⟨#[]⟩] 86 (0, 0))) := Lib.hid (by first | exact one_new hb | exact one_newD hb)) | skip); (first | (have RNg := lt_of_row RN0.out; have RNh := Nat.ne_of_lt RNg; have RNi := Nat.ne_of_gt RNg) | skip); have KC := Lib.hid hk_c; clear hk_c; clear hb)
          | (go_at_call 61; (with_reducible refine (T2.out _ (by first | with_reducible exact hv1 | with_reducible exact bstep hv1 (A1 rfl).1 | with_reducible exact (bstep hv1 (A1 rfl).1).drew | with_reducible exact (bstep hvr (A1 rfl).1).drew) vc (by first | with_reducible exact KC.out | with_reducible exact (KC.out.below (Below.drew (Below.refl _ _))) | with_reducible exact (KC.out.below (A1 rfl).1) | with_reducible exact ((KC.out.below (A1 rfl).1).below (Below.drew (Below.refl _ _))))).mono ?_); rintro e wq1 ⟨rfl, hb⟩; have hv2 : Below w3.heap.size w3 wq1 := (by first | with_reducible exact bstep (hv1) hb | with_reducible exact bstep (bstep hv1 (A1 rfl).1) hb | with_reducible exact bstep ((bstep hv1 (A1 rfl).1).drew) hb | with_reducible exact bstep ((bstep hvr (A1 rfl).1).drew) hb); have hs2 := Ap.of_below (g := w3.heap.size) (h := w3.heap.size) hv2; have sz2 := hv2.size; have KC := Lib.hid (by first | with_reducible exact KC.out.below hb | with_reducible exact (KC.out.below (Below.drew (Below.refl _ _))).below hb | with_reducible exact (KC.out.below (A1 rfl).1).below hb | with_reducible exact ((KC.out.below (A1 rfl).1).below (Below.drew (Below.refl _ _))).below hb); (first | (with_reducible have RN0 := Lib.hid (keep hb RN0.out)) | (with_reducible have RN0 := Lib.hid (keep hb (old1 RN0.out))) | skip); (first | (have RN1 : RowKit.Hid (wq1.heap[wq0.heap.size]? = some (.cells #[.string ⟨#[]⟩, .string ⟨#[]⟩, .string ⟨#[]⟩, .string ⟨#[]⟩, .string ⟨#[]⟩, .string ⟨#[]⟩] 86 (0, 0))) := Lib.hid (by first | exact one_new hb | exact one_newD hb)) | skip); (first | (have RNg := lt_of_row RN1.out; have RNh := Nat.ne_of_lt RNg; have RNi := Nat.ne_of_gt RNg) | skip); (first | (have RNx := row6f RN0.out; obtain ⟨RNf00, RNf01, RNf02, RNf03, RNf04, RNf05, RNf06, RNf07, RNf08, RNf09, RNf010, RNf011⟩ := RNx) | skip); (first | (have RNx := row6f RN1.out; obtain ⟨RNf10, RNf11, RNf12, RNf13, RNf14, RNf15, RNf16, RNf17, RNf18, RNf19, RNf110, RNf111⟩ := RNx) | skip); clear hb))
    | fail
    all_goals
      go_wp2_with fail
      go_meet
      first
      | (have E := endN2 hv2 (.cells #[.string L0, .string U0, .string L1, .string U1, .string L2, .string U2] 86 (0, 0)); with_reducible exact ⟨_, rfl, rfl, Lib.hid E.1, Lib.hid E.2⟩)
      | (have E := end6 hv2 RN0.out (by first | exact Nat.le_refl _ | assumption) (.string L0) (.string U0) (.string L1) (.string U1) (.string L2) (.string U2); with_reducible exact ⟨_, rfl, rfl, Lib.hid E.1, Lib.hid E.2⟩)
      | (have E := end6 hv2 RN1.out (by first | exact Nat.le_refl _ | assumption) (.string L0) (.string U0) (.string L1) (.string U1) (.string L2) (.string U2); with_reducible exact ⟨_, rfl, rfl, Lib.hid E.1, Lib.hid E.2⟩)
  case rest =>
    obtain ⟨i5, rfl, rfl, R5, hbw⟩ := hcut
    have hb := hbw.out
    have R3 := Lib.hid (keep hb R3.out)
    replace hB := bstep hB hb
    clear hb hbw T1 T2

    have n57 := Lib.hid (lp R5.out)
    have n37 := Lib.hid (lp R3.out)
    have LB7 := Lib.hid hB.size
    go_upto_region 9 with fail
    generalize hY : World.alloc wc _ = Y
    obtain ⟨hb, hsz, R7⟩ := A1 hY
    replace hB := bstep hB hb
    have R3 := Lib.hid (keep hb R3.out)
    have R5 := Lib.hid (keep hb R5.out)
    have R7 := Lib.hid R7
    clear hY hsz hb
    generalize wc.heap.size = b7 at *
    go_wp2_with fail
    go_loopw [52] (fun x wr => ∃ (k : Nat) (b0 b1 b2 b3 b4 b5 : Bool), k ≤ n ∧ x = .int .i64 k ∧ Below w.heap.size w wr ∧ Hid (wr.heap[w.heap.size]? = some (.cells #[.string h, .string t] 24 (0, 0))) ∧ Hid (wr.heap[i5]? = some (.cells #[.string L0, .string U0, .string L1, .string U1, .string L2, .string U2] 86 (0, 0))) ∧ Hid (wr.heap[b7]? = some (.cells #[.bool b0, .bool b1, .bool b2, .bool b3, .bool b4, .bool b5] 93 (0, 0))) ∧ Hid (Hit C0 L0 (k * 3) b0) ∧ Hid (Hit C0 U0 (k * 3) b1) ∧ Hid (Hit C1 L1 (k * 3) b2) ∧ Hid (Hit C1 U1 (k * 3) b3) ∧ Hid (Hit C2 L2 (k * 3) b4) ∧ Hid (Hit C2 U2 (k * 3) b5)) (fun x _ => n - (intOf x).toNat)
    case atStart => exact ⟨0, _, _, _, _, _, _, Nat.zero_le _, rfl, hB, R3, R5, R7, Lib.hid (Hit.zero _ _ _), Lib.hid (Hit.zero _ _ _), Lib.hid (Hit.zero _ _ _), Lib.hid (Hit.zero _ _ _), Lib.hid (Hit.zero _ _ _), Lib.hid (Hit.zero _ _ _)⟩
    case round =>
      clear R3 R5 R7 hB
      obtain ⟨k, b0, b1, b2, b3, b4, b5, hk, rfl, hB, R3, R5, R7, Q0, Q1, Q2, Q3, Q4, Q5⟩ := hrel
      by_cases hlt : k < n
      · obtain ⟨v0, v1, v2⟩ := (HA.out.below hB) (k * 3 + 0) (by omega)
        obtain ⟨v3, v4, v5⟩ := (HA.out.below hB) (k * 3 + 1) (by omega)
        obtain ⟨v6, v7, v8⟩ := (HA.out.below hB) (k * 3 + 2) (by omega)
        rw [show o + (k * 3 + 0) * 3 = o + k * 9 by omega] at v0 v1 v2
        rw [show o + (k * 3 + 1) * 3 = o + k * 9 + 3 by omega] at v3 v4 v5
        rw [show o + (k * 3 + 2) * 3 = o + k * 9 + 6 by omega] at v6 v7 v8
        have ij0 : ∀ w, (Instr.index 91 (.agg #[.string (T (k * 3)).1, .string (T (k * 3)).2.1, .string (T (k * 3)).2.2, .string (T (k * 3 + 1)).1, .string (T (k * 3 + 1)).2.1, .string (T (k * 3 + 1)).2.2, .string (T (k * 3 + 2)).1, .string (T (k * 3 + 2)).2.1, .string (T (k * 3 + 2)).2.2]) (.int .i64 0)).run Tryz.prog w = .ok (.agg #[.string (T (k * 3)).1, .string (T (k * 3)).2.1, .string (T (k * 3)).2.2]) w := fun _ => by kernel_rfl
        have ij1 : ∀ w, (Instr.index 91 (.agg #[.string (T (k * 3)).1, .string (T (k * 3)).2.1, .string (T (k * 3)).2.2, .string (T (k * 3 + 1)).1, .string (T (k * 3 + 1)).2.1, .string (T (k * 3 + 1)).2.2, .string (T (k * 3 + 2)).1, .string (T (k * 3 + 2)).2.1, .string (T (k * 3 + 2)).2.2]) (.int .i64 1)).run Tryz.prog w = .ok (.agg #[.string (T (k * 3 + 1)).1, .string (T (k * 3 + 1)).2.1, .string (T (k * 3 + 1)).2.2]) w := fun _ => by kernel_rfl
        have ij2 : ∀ w, (Instr.index 91 (.agg #[.string (T (k * 3)).1, .string (T (k * 3)).2.1, .string (T (k * 3)).2.2, .string (T (k * 3 + 1)).1, .string (T (k * 3 + 1)).2.1, .string (T (k * 3 + 1)).2.2, .string (T (k * 3 + 2)).1, .string (T (k * 3 + 2)).2.1, .string (T (k * 3 + 2)).2.2]) (.int .i64 2)).run Tryz.prog w = .ok (.agg #[.string (T (k * 3 + 2)).1, .string (T (k * 3 + 2)).2.1, .string (T (k * 3 + 2)).2.2]) w := fun _ => by kernel_rfl
        have ij : ∀ (j : Nat), j < 3 → ∀ w, (Instr.index 91 (.agg #[.string (T (k * 3)).1, .string (T (k * 3)).2.1, .string (T (k * 3)).2.2, .string (T (k * 3 + 1)).1, .string (T (k * 3 + 1)).2.1, .string (T (k * 3 + 1)).2.2, .string (T (k * 3 + 2)).1, .string (T (k * 3 + 2)).2.1, .string (T (k * 3 + 2)).2.2]) (.int .i64 j)).run Tryz.prog w = .ok (.agg #[.string (T (k * 3 + j)).1, .string (T (k * 3 + j)).2.1, .string (T (k * 3 + j)).2.2]) w := by
          intro j hj
          match j, hj with
          | 0, _ => exact ij0
          | 1, _ => exact ij1
          | 2, _ => exact ij2
        clear ij0 ij1 ij2
        have IJ := Lib.hid ij
        clear ij
        go_upto_region 12 with fail
        clear v0 v1 v2 v3 v4 v5 v6 v7 v8
        generalize hW : World.alloc _ _ = Y
        obtain ⟨hb, hsz, R9⟩ := A1 hW
        replace hB := bstep hB hb
        have R3 := Lib.hid (keep hb R3.out)
        have R5 := Lib.hid (keep hb R5.out)
        have R7 := Lib.hid (keep hb R7.out)
        clear hb
        have R9 := Lib.hid R9
        clear hW hsz
        obtain ⟨c0, c1, c2, c3, c4, c5, c6, c7, c8⟩ := rowc9 R9.out
        go_wp2_with fail
        clear c0 c1 c2 c3 c4 c5 c6 c7 c8
        go_loopw [57] (fun x wr => ∃ (j : Nat) (b0 b1 b2 b3 b4 b5 : Bool), j ≤ 3 ∧ x = .int .i64 j ∧ Below w.heap.size w wr ∧ Hid (wr.heap[w.heap.size]? = some (.cells #[.string h, .string t] 24 (0, 0))) ∧ Hid (wr.heap[i5]? = some (.cells #[.string L0, .string U0, .string L1, .string U1, .string L2, .string U2] 86 (0, 0))) ∧ Hid (wr.heap[b7]? = some (.cells #[.bool b0, .bool b1, .bool b2, .bool b3, .bool b4, .bool b5] 93 (0, 0))) ∧ Hid (Hit C0 L0 (k * 3 + j) b0) ∧ Hid (Hit C0 U0 (k * 3 + j) b1) ∧ Hid (Hit C1 L1 (k * 3 + j) b2) ∧ Hid (Hit C1 U1 (k * 3 + j) b3) ∧ Hid (Hit C2 L2 (k * 3 + j) b4) ∧ Hid (Hit C2 U2 (k * 3 + j) b5)) (fun x _ => 3 - (intOf x).toNat)
        case atStart => exact ⟨0, b0, b1, b2, b3, b4, b5, by omega, rfl, hB, R3, R5, R7, Q0, Q1, Q2, Q3, Q4, Q5⟩
        case round =>
          clear R3 R5 R7 R9 hB Q0 Q1 Q2 Q3 Q4 Q5
          obtain ⟨j, b0, b1, b2, b3, b4, b5, hj3, rfl, hB, R3, R5, R7, Q0, Q1, Q2, Q3, Q4, Q5⟩ := hrel
          by_cases hj : j < 3
          · have ij := IJ.out j hj
            have hm3 : k * 3 + j < n * 3 := by omega
            have hmk : k * 3 + j + 1 = k * 3 + (j + 1) := rfl
            generalize hmm : k * 3 + j = m at *
            have lR := lp2 R3.out
            go_upto_region 15 with fail
            clear ij lR
            generalize hW : World.alloc _ _ = Y2
            obtain ⟨hb, hsz, R11⟩ := A1 hW
            replace hB := bstep hB hb
            have R3 := Lib.hid (keep hb R3.out)
            have R5 := Lib.hid (keep hb R5.out)
            have R7 := Lib.hid (keep hb R7.out)
            clear hb
            have R11 := Lib.hid R11
            clear hW hsz
            obtain ⟨c0, c1, f0, f1⟩ := row2 R3.out
            obtain ⟨x0, x1, x2⟩ := rowc3 R11.out
            go_wp2_with fail
            clear c0 c1 f0 f1 x0 x1 x2
            refine (HTN.out m hm3 _ (HE.out.below hB)).mono ?_
            rintro e wt ⟨rfl, hb⟩
            replace hB := bstep hB hb
            have R3 := Lib.hid (keep hb R3.out)
            have R5 := Lib.hid (keep hb R5.out)
            have R7 := Lib.hid (keep hb R7.out)
            clear hb R11
            go_upto_region 16 with fail
            generalize hW : World.alloc _ _ = Y3
            obtain ⟨hb, hsz, R12⟩ := A1 hW
            replace hB := bstep hB hb
            have R3 := Lib.hid (keep hb R3.out)
            have R5 := Lib.hid (keep hb R5.out)
            have R7 := Lib.hid (keep hb R7.out)
            clear hb
            have R12 := Lib.hid R12
            clear hW hsz
            obtain ⟨x0, x1, x2⟩ := rowc3 R12.out
            go_wp2_with fail
            clear x0 x1 x2
            have nB7 := Lib.hid (lp R7.out)
            generalize hW : World.alloc _ _ = Y4
            obtain ⟨hb, hsz, RB⟩ := A1 hW
            replace hB := bstep hB hb
            have R3 := Lib.hid (keep hb R3.out)
            have R5 := Lib.hid (keep hb R5.out)
            have R7 := Lib.hid (keep hb R7.out)
            clear hb
            have RB := Lib.hid RB
            clear hW hsz
            generalize Y3.heap.size = bB at *
            clear R12
            go_loopw [76] (fun x wr => ∃ (i : Nat) (b0 b1 b2 b3 b4 b5 : Bool), x = .int .i64 i ∧ Below w.heap.size w wr ∧ Hid (wr.heap[w.heap.size]? = some (.cells #[.string h, .string t] 24 (0, 0))) ∧ Hid (wr.heap[i5]? = some (.cells #[.string L0, .string U0, .string L1, .string U1, .string L2, .string U2] 86 (0, 0))) ∧ Hid (wr.heap[b7]? = some (.cells #[.bool b0, .bool b1, .bool b2, .bool b3, .bool b4, .bool b5] 93 (0, 0))) ∧ Hid (wr.heap[bB]? = some (.cells #[.string (C0 m), .string (C1 m), .string (C2 m)] 22 (0, 0))) ∧ ((i = 0 ∧ Hid (Hit C0 L0 (m) b0) ∧ Hid (Hit C0 U0 (m) b1) ∧ Hid (Hit C1 L1 (m) b2) ∧ Hid (Hit C1 U1 (m) b3) ∧ Hid (Hit C2 L2 (m) b4) ∧ Hid (Hit C2 U2 (m) b5)) ∨ (i = 1 ∧ Hid (Hit C0 L0 (m + 1) b0) ∧ Hid (Hit C0 U0 (m + 1) b1) ∧ Hid (Hit C1 L1 (m) b2) ∧ Hid (Hit C1 U1 (m) b3) ∧ Hid (Hit C2 L2 (m) b4) ∧ Hid (Hit C2 U2 (m) b5)) ∨ (i = 2 ∧ Hid (Hit C0 L0 (m + 1) b0) ∧ Hid (Hit C0 U0 (m + 1) b1) ∧ Hid (Hit C1 L1 (m + 1) b2) ∧ Hid (Hit C1 U1 (m + 1) b3) ∧ Hid (Hit C2 L2 (m) b4) ∧ Hid (Hit C2 U2 (m) b5)) ∨ (i = 3 ∧ Hid (Hit C0 L0 (m + 1) b0) ∧ Hid (Hit C0 U0 (m + 1) b1) ∧ Hid (Hit C1 L1 (m + 1) b2) ∧ Hid (Hit C1 U1 (m + 1) b3) ∧ Hid (Hit C2 L2 (m + 1) b4) ∧ Hid (Hit C2 U2 (m + 1) b5)))) (fun x _ => 3 - (intOf x).toNat)
            case atStart => exact ⟨0, b0, b1, b2, b3, b4, b5, rfl, hB, R3, R5, R7, RB, Or.inl ⟨rfl, Q0, Q1, Q2, Q3, Q4, Q5⟩⟩
            case round =>
              clear R3 R5 R7 RB hB Q0 Q1 Q2 Q3 Q4 Q5
              obtain ⟨i, b0, b1, b2, b3, b4, b5, rfl, hB, R3, R5, R7, RB, hi⟩ := hrel
              rcases hi with ⟨rfl, Q0, Q1, Q2, Q3, Q4, Q5⟩ | ⟨rfl, Q0, Q1, Q2, Q3, Q4, Q5⟩ | ⟨rfl, Q0, Q1, Q2, Q3, Q4, Q5⟩ | ⟨rfl, Q0, Q1, Q2, Q3, Q4, Q5⟩
              · have n16 := Lib.hid (show wr.heap.size + 1 ≠ b7 by have := lp2 R7.out; omega)
                obtain ⟨RB_0, RB_1, RB_2, RB_3, RB_4, RB_5⟩ := row3 RB.out
                obtain ⟨R5_0, R5_1, R5_2, R5_3, R5_4, R5_5, R5_6, R5_7, R5_8, R5_9, R5_10, R5_11⟩ := row6f R5.out
                have lR := lp2 RB.out
                have lS := lp2 R5.out
                go_upto_region 22 with fail
                clear lR lS
                clear RB_0 RB_1 RB_2 RB_3 RB_4 RB_5
                clear R5_0 R5_1 R5_2 R5_3 R5_4 R5_5 R5_6 R5_7 R5_8 R5_9 R5_10 R5_11
                generalize hW : (World.alloc _ _).alloc _ = Ya
                obtain ⟨hb, hsz, RW, R16⟩ := A2 hW
                replace hB := bstep hB hb
                have R3 := Lib.hid (keep hb R3.out)
                have R5 := Lib.hid (keep hb R5.out)
                have R7 := Lib.hid (keep hb R7.out)
                have RB := Lib.hid (keep hb RB.out)
                clear hb
                have RW := Lib.hid RW
                have R16 := Lib.hid R16
                clear hW hsz
                go_wp2_with fail
                refine (HF0.out m hm3 _).mono ?_
                rintro e wa ⟨p1, d1, rfl, k1, hb⟩
                replace hB := bstep hB hb
                have K1 := Lib.hid k1
                have R3 := Lib.hid (keep hb R3.out)
                have R5 := Lib.hid (keep hb R5.out)
                have R7 := Lib.hid (keep hb R7.out)
                have RB := Lib.hid (keep hb RB.out)
                have R16 := Lib.hid (keep hb R16.out)
                clear hb
                clear k1 RW
                go_upto_region 23 with fail
                generalize hW : World.alloc _ _ = Yb
                obtain ⟨hb, hsz, R17⟩ := A1 hW
                replace hB := bstep hB hb
                have R3 := Lib.hid (keep hb R3.out)
                have R5 := Lib.hid (keep hb R5.out)
                have R7 := Lib.hid (keep hb R7.out)
                have RB := Lib.hid (keep hb RB.out)
                have R16 := Lib.hid (keep hb R16.out)
                have K1 := Lib.hid (K1.out.below hb)
                clear hb
                have R17 := Lib.hid R17
                clear hW hsz
                obtain ⟨R16_0, R16_1, R16_2, R16_3⟩ := row2 R16.out
                go_wp2_with fail
                clear R16_0 R16_1 R16_2 R16_3
                refine (HL0.out _).mono ?_
                rintro e wb ⟨p2, d2, rfl, k2, hb⟩
                replace hB := bstep hB hb
                have K2 := Lib.hid k2
                have R3 := Lib.hid (keep hb R3.out)
                have R5 := Lib.hid (keep hb R5.out)
                have R7 := Lib.hid (keep hb R7.out)
                have RB := Lib.hid (keep hb RB.out)
                have R16 := Lib.hid (keep hb R16.out)
                have R17 := Lib.hid (keep hb R17.out)
                have K1 := Lib.hid (K1.out.below hb)
                clear hb
                clear k2
                go_upto_region 24 with fail
                generalize hW : World.alloc _ _ = Yc
                obtain ⟨hb, hsz, R19⟩ := A1 hW
                replace hB := bstep hB hb
                have R3 := Lib.hid (keep hb R3.out)
                have R5 := Lib.hid (keep hb R5.out)
                have R7 := Lib.hid (keep hb R7.out)
                have RB := Lib.hid (keep hb RB.out)
                have R16 := Lib.hid (keep hb R16.out)
                have R17 := Lib.hid (keep hb R17.out)
                have K1 := Lib.hid (K1.out.below hb)
                have K2 := Lib.hid (K2.out.below hb)
                clear hb
                have R19 := Lib.hid R19
                clear hW hsz
                obtain ⟨R16_0, R16_1, R16_2, R16_3⟩ := row2 R16.out
                go_wp2_with fail
                clear R16_0 R16_1 R16_2 R16_3
                refine (HU0.out _).mono ?_
                rintro e wc ⟨p3, d3, rfl, k3, hb⟩
                replace hB := bstep hB hb
                have K3 := Lib.hid k3
                have R3 := Lib.hid (keep hb R3.out)
                have R5 := Lib.hid (keep hb R5.out)
                have R7 := Lib.hid (keep hb R7.out)
                have RB := Lib.hid (keep hb RB.out)
                have R16 := Lib.hid (keep hb R16.out)
                have R17 := Lib.hid (keep hb R17.out)
                have R19 := Lib.hid (keep hb R19.out)
                have K1 := Lib.hid (K1.out.below hb)
                have K2 := Lib.hid (K2.out.below hb)
                clear hb
                clear k3
                go_upto_region 25 with fail
                generalize hW : World.alloc _ _ = Yd
                obtain ⟨hb, hsz, R21⟩ := A1 hW
                replace hB := bstep hB hb
                have R3 := Lib.hid (keep hb R3.out)
                have R5 := Lib.hid (keep hb R5.out)
                have R7 := Lib.hid (keep hb R7.out)
                have RB := Lib.hid (keep hb RB.out)
                have R16 := Lib.hid (keep hb R16.out)
                have R17 := Lib.hid (keep hb R17.out)
                have R19 := Lib.hid (keep hb R19.out)
                have K1 := Lib.hid (K1.out.below hb)
                have K2 := Lib.hid (K2.out.below hb)
                have K3 := Lib.hid (K3.out.below hb)
                clear hb
                have R21 := Lib.hid R21
                clear hW hsz
                obtain ⟨R17_0, R17_1, R17_2, R17_3, R17_4, R17_5⟩ := row3 R17.out
                obtain ⟨R19_0, R19_1, R19_2, R19_3, R19_4, R19_5⟩ := row3 R19.out
                go_wp2_with fail
                clear R17_0 R17_1 R17_2 R17_3 R17_4 R17_5
                clear R19_0 R19_1 R19_2 R19_3 R19_4 R19_5
                refine (HA0.out m hm3 _ _ _ _ _ K1.out K2.out).mono ?_
                rintro e wd ⟨rfl, hb⟩
                replace hB := bstep hB hb
                have R3 := Lib.hid (keep hb R3.out)
                have R5 := Lib.hid (keep hb R5.out)
                have R7 := Lib.hid (keep hb R7.out)
                have RB := Lib.hid (keep hb RB.out)
                have R16 := Lib.hid (keep hb R16.out)
                have R17 := Lib.hid (keep hb R17.out)
                have R21 := Lib.hid (keep hb R21.out)
                have K1 := Lib.hid (K1.out.below hb)
                have K3 := Lib.hid (K3.out.below hb)
                clear hb
                obtain ⟨R17_0, R17_1, R17_2, R17_3, R17_4, R17_5⟩ := row3 R17.out
                obtain ⟨R21_0, R21_1, R21_2, R21_3, R21_4, R21_5⟩ := row3 R21.out
                go_wp2_with fail
                clear R17_0 R17_1 R17_2 R17_3 R17_4 R17_5
                clear R21_0 R21_1 R21_2 R21_3 R21_4 R21_5
                refine (HB0.out m hm3 _ _ _ _ _ K3.out K1.out).mono ?_
                rintro e we ⟨rfl, hb⟩
                replace hB := bstep hB hb
                have R3 := Lib.hid (keep hb R3.out)
                have R5 := Lib.hid (keep hb R5.out)
                have R7 := Lib.hid (keep hb R7.out)
                have RB := Lib.hid (keep hb RB.out)
                have R16 := Lib.hid (keep hb R16.out)
                clear hb
                clear R17 R19 R21 K1 K2 K3
                cases b0
                · skip
                  obtain ⟨R7_0, R7_1, R7_2, R7_3, R7_4, R7_5, R7_6, R7_7, R7_8, R7_9, R7_10, R7_11⟩ := row6f R7.out
                  obtain ⟨R16_0, R16_1, R16_2, R16_3⟩ := row2 R16.out
                  go_upto_region 28 with fail
                  clear R7_0 R7_1 R7_2 R7_3 R7_4 R7_5 R7_6 R7_7 R7_8 R7_9 R7_10 R7_11
                  clear R16_0 R16_1 R16_2 R16_3
                  generalize hE0 : ((C0 m).toList == L0.toList) = E0
                  have R7 := Lib.hid (by
                    have k := heap_setCell_same _ b7 0 _ _ (.bool E0) R7.out
                    simpa only [List.setIfInBounds_toArray, List.set_cons_zero, List.set_cons_succ] using k)
                  have R3 := Lib.hid (set_other n37.out R3.out (i := 0) (x := .bool E0))
                  have R5 := Lib.hid (set_other n57.out R5.out (i := 0) (x := .bool E0))
                  have RB := Lib.hid (set_other nB7.out.symm RB.out (i := 0) (x := .bool E0))
                  have R16 := Lib.hid (set_other n16.out R16.out (i := 0) (x := .bool E0))
                  have hB := set_below hB LB7.out (i := 0) (x := .bool E0)
                  have Q0 := Lib.hid (show Hit C0 L0 (m + 1) E0 from Hit.step (b := false) Q0.out (fun h => by rw [← hE0, h]; simp))
                  generalize World.setCell _ ⟨b7, 0, none⟩ _ = Z0 at *
                  cases b1
                  · skip
                    obtain ⟨R7_0, R7_1, R7_2, R7_3, R7_4, R7_5, R7_6, R7_7, R7_8, R7_9, R7_10, R7_11⟩ := row6f R7.out
                    obtain ⟨R16_0, R16_1, R16_2, R16_3⟩ := row2 R16.out
                    go_wp2_with fail
                    clear R7_0 R7_1 R7_2 R7_3 R7_4 R7_5 R7_6 R7_7 R7_8 R7_9 R7_10 R7_11
                    clear R16_0 R16_1 R16_2 R16_3
                    generalize hE1 : ((C0 m).toList == U0.toList) = E1
                    have R7 := Lib.hid (by
                      have k := heap_setCell_same _ b7 1 _ _ (.bool E1) R7.out
                      simpa only [List.setIfInBounds_toArray, List.set_cons_zero, List.set_cons_succ] using k)
                    have R3 := Lib.hid (set_other n37.out R3.out (i := 1) (x := .bool E1))
                    have R5 := Lib.hid (set_other n57.out R5.out (i := 1) (x := .bool E1))
                    have RB := Lib.hid (set_other nB7.out.symm RB.out (i := 1) (x := .bool E1))
                    have hB := set_below hB LB7.out (i := 1) (x := .bool E1)
                    have Q1 := Lib.hid (show Hit C0 U0 (m + 1) E1 from Hit.step (b := false) Q1.out (fun h => by rw [← hE1, h]; simp))
                    generalize World.setCell _ ⟨b7, 1, none⟩ _ = Z1 at *
                    go_roundw
                    case rel => exact ⟨1, E0, E1, b2, b3, b4, b5, by first | rfl | go_num, hB, R3, R5, R7, RB, Or.inr (Or.inl ⟨rfl, Q0, Q1, Q2, Q3, Q4, Q5⟩)⟩
                    case measure => decide
                  · skip
                    obtain ⟨R7_0, R7_1, R7_2, R7_3, R7_4, R7_5, R7_6, R7_7, R7_8, R7_9, R7_10, R7_11⟩ := row6f R7.out
                    obtain ⟨R16_0, R16_1, R16_2, R16_3⟩ := row2 R16.out
                    go_wp2_with fail
                    clear R7_0 R7_1 R7_2 R7_3 R7_4 R7_5 R7_6 R7_7 R7_8 R7_9 R7_10 R7_11
                    clear R16_0 R16_1 R16_2 R16_3
                    have R7 := Lib.hid (by
                      have k := heap_setCell_same _ b7 1 _ _ (.bool true) R7.out
                      simpa only [List.setIfInBounds_toArray, List.set_cons_zero, List.set_cons_succ] using k)
                    have R3 := Lib.hid (set_other n37.out R3.out (i := 1) (x := .bool true))
                    have R5 := Lib.hid (set_other n57.out R5.out (i := 1) (x := .bool true))
                    have RB := Lib.hid (set_other nB7.out.symm RB.out (i := 1) (x := .bool true))
                    have hB := set_below hB LB7.out (i := 1) (x := .bool true)
                    have Q1 := Lib.hid (Hit.yes C0 U0 (m + 1))
                    generalize World.setCell _ ⟨b7, 1, none⟩ _ = Z1 at *
                    go_roundw
                    case rel => exact ⟨1, E0, true, b2, b3, b4, b5, by first | rfl | go_num, hB, R3, R5, R7, RB, Or.inr (Or.inl ⟨rfl, Q0, Q1, Q2, Q3, Q4, Q5⟩)⟩
                    case measure => decide
                · skip
                  obtain ⟨R7_0, R7_1, R7_2, R7_3, R7_4, R7_5, R7_6, R7_7, R7_8, R7_9, R7_10, R7_11⟩ := row6f R7.out
                  obtain ⟨R16_0, R16_1, R16_2, R16_3⟩ := row2 R16.out
                  go_upto_region 28 with fail
                  clear R7_0 R7_1 R7_2 R7_3 R7_4 R7_5 R7_6 R7_7 R7_8 R7_9 R7_10 R7_11
                  clear R16_0 R16_1 R16_2 R16_3
                  have R7 := Lib.hid (by
                    have k := heap_setCell_same _ b7 0 _ _ (.bool true) R7.out
                    simpa only [List.setIfInBounds_toArray, List.set_cons_zero, List.set_cons_succ] using k)
                  have R3 := Lib.hid (set_other n37.out R3.out (i := 0) (x := .bool true))
                  have R5 := Lib.hid (set_other n57.out R5.out (i := 0) (x := .bool true))
                  have RB := Lib.hid (set_other nB7.out.symm RB.out (i := 0) (x := .bool true))
                  have R16 := Lib.hid (set_other n16.out R16.out (i := 0) (x := .bool true))
                  have hB := set_below hB LB7.out (i := 0) (x := .bool true)
                  have Q0 := Lib.hid (Hit.yes C0 L0 (m + 1))
                  generalize World.setCell _ ⟨b7, 0, none⟩ _ = Z0 at *
                  cases b1
                  · skip
                    obtain ⟨R7_0, R7_1, R7_2, R7_3, R7_4, R7_5, R7_6, R7_7, R7_8, R7_9, R7_10, R7_11⟩ := row6f R7.out
                    obtain ⟨R16_0, R16_1, R16_2, R16_3⟩ := row2 R16.out
                    go_wp2_with fail
                    clear R7_0 R7_1 R7_2 R7_3 R7_4 R7_5 R7_6 R7_7 R7_8 R7_9 R7_10 R7_11
                    clear R16_0 R16_1 R16_2 R16_3
                    generalize hE1 : ((C0 m).toList == U0.toList) = E1
                    have R7 := Lib.hid (by
                      have k := heap_setCell_same _ b7 1 _ _ (.bool E1) R7.out
                      simpa only [List.setIfInBounds_toArray, List.set_cons_zero, List.set_cons_succ] using k)
                    have R3 := Lib.hid (set_other n37.out R3.out (i := 1) (x := .bool E1))
                    have R5 := Lib.hid (set_other n57.out R5.out (i := 1) (x := .bool E1))
                    have RB := Lib.hid (set_other nB7.out.symm RB.out (i := 1) (x := .bool E1))
                    have hB := set_below hB LB7.out (i := 1) (x := .bool E1)
                    have Q1 := Lib.hid (show Hit C0 U0 (m + 1) E1 from Hit.step (b := false) Q1.out (fun h => by rw [← hE1, h]; simp))
                    generalize World.setCell _ ⟨b7, 1, none⟩ _ = Z1 at *
                    go_roundw
                    case rel => exact ⟨1, true, E1, b2, b3, b4, b5, by first | rfl | go_num, hB, R3, R5, R7, RB, Or.inr (Or.inl ⟨rfl, Q0, Q1, Q2, Q3, Q4, Q5⟩)⟩
                    case measure => decide
                  · skip
                    obtain ⟨R7_0, R7_1, R7_2, R7_3, R7_4, R7_5, R7_6, R7_7, R7_8, R7_9, R7_10, R7_11⟩ := row6f R7.out
                    obtain ⟨R16_0, R16_1, R16_2, R16_3⟩ := row2 R16.out
                    go_wp2_with fail
                    clear R7_0 R7_1 R7_2 R7_3 R7_4 R7_5 R7_6 R7_7 R7_8 R7_9 R7_10 R7_11
                    clear R16_0 R16_1 R16_2 R16_3
                    have R7 := Lib.hid (by
                      have k := heap_setCell_same _ b7 1 _ _ (.bool true) R7.out
                      simpa only [List.setIfInBounds_toArray, List.set_cons_zero, List.set_cons_succ] using k)
                    have R3 := Lib.hid (set_other n37.out R3.out (i := 1) (x := .bool true))
                    have R5 := Lib.hid (set_other n57.out R5.out (i := 1) (x := .bool true))
                    have RB := Lib.hid (set_other nB7.out.symm RB.out (i := 1) (x := .bool true))
                    have hB := set_below hB LB7.out (i := 1) (x := .bool true)
                    have Q1 := Lib.hid (Hit.yes C0 U0 (m + 1))
                    generalize World.setCell _ ⟨b7, 1, none⟩ _ = Z1 at *
                    go_roundw
                    case rel => exact ⟨1, true, true, b2, b3, b4, b5, by first | rfl | go_num, hB, R3, R5, R7, RB, Or.inr (Or.inl ⟨rfl, Q0, Q1, Q2, Q3, Q4, Q5⟩)⟩
                    case measure => decide
              · have n16 := Lib.hid (show wr.heap.size + 1 ≠ b7 by have := lp2 R7.out; omega)
                obtain ⟨RB_0, RB_1, RB_2, RB_3, RB_4, RB_5⟩ := row3 RB.out
                obtain ⟨R5_0, R5_1, R5_2, R5_3, R5_4, R5_5, R5_6, R5_7, R5_8, R5_9, R5_10, R5_11⟩ := row6f R5.out
                have lR := lp2 RB.out
                have lS := lp2 R5.out
                go_upto_region 22 with fail
                clear lR lS
                clear RB_0 RB_1 RB_2 RB_3 RB_4 RB_5
                clear R5_0 R5_1 R5_2 R5_3 R5_4 R5_5 R5_6 R5_7 R5_8 R5_9 R5_10 R5_11
                generalize hW : (World.alloc _ _).alloc _ = Ya
                obtain ⟨hb, hsz, RW, R16⟩ := A2 hW
                replace hB := bstep hB hb
                have R3 := Lib.hid (keep hb R3.out)
                have R5 := Lib.hid (keep hb R5.out)
                have R7 := Lib.hid (keep hb R7.out)
                have RB := Lib.hid (keep hb RB.out)
                clear hb
                have RW := Lib.hid RW
                have R16 := Lib.hid R16
                clear hW hsz
                go_wp2_with fail
                refine (HF1.out m hm3 _).mono ?_
                rintro e wa ⟨p1, d1, rfl, k1, hb⟩
                replace hB := bstep hB hb
                have K1 := Lib.hid k1
                have R3 := Lib.hid (keep hb R3.out)
                have R5 := Lib.hid (keep hb R5.out)
                have R7 := Lib.hid (keep hb R7.out)
                have RB := Lib.hid (keep hb RB.out)
                have R16 := Lib.hid (keep hb R16.out)
                clear hb
                clear k1 RW
                go_upto_region 23 with fail
                generalize hW : World.alloc _ _ = Yb
                obtain ⟨hb, hsz, R17⟩ := A1 hW
                replace hB := bstep hB hb
                have R3 := Lib.hid (keep hb R3.out)
                have R5 := Lib.hid (keep hb R5.out)
                have R7 := Lib.hid (keep hb R7.out)
                have RB := Lib.hid (keep hb RB.out)
                have R16 := Lib.hid (keep hb R16.out)
                have K1 := Lib.hid (K1.out.below hb)
                clear hb
                have R17 := Lib.hid R17
                clear hW hsz
                obtain ⟨R16_0, R16_1, R16_2, R16_3⟩ := row2 R16.out
                go_wp2_with fail
                clear R16_0 R16_1 R16_2 R16_3
                refine (HL1.out _).mono ?_
                rintro e wb ⟨p2, d2, rfl, k2, hb⟩
                replace hB := bstep hB hb
                have K2 := Lib.hid k2
                have R3 := Lib.hid (keep hb R3.out)
                have R5 := Lib.hid (keep hb R5.out)
                have R7 := Lib.hid (keep hb R7.out)
                have RB := Lib.hid (keep hb RB.out)
                have R16 := Lib.hid (keep hb R16.out)
                have R17 := Lib.hid (keep hb R17.out)
                have K1 := Lib.hid (K1.out.below hb)
                clear hb
                clear k2
                go_upto_region 24 with fail
                generalize hW : World.alloc _ _ = Yc
                obtain ⟨hb, hsz, R19⟩ := A1 hW
                replace hB := bstep hB hb
                have R3 := Lib.hid (keep hb R3.out)
                have R5 := Lib.hid (keep hb R5.out)
                have R7 := Lib.hid (keep hb R7.out)
                have RB := Lib.hid (keep hb RB.out)
                have R16 := Lib.hid (keep hb R16.out)
                have R17 := Lib.hid (keep hb R17.out)
                have K1 := Lib.hid (K1.out.below hb)
                have K2 := Lib.hid (K2.out.below hb)
                clear hb
                have R19 := Lib.hid R19
                clear hW hsz
                obtain ⟨R16_0, R16_1, R16_2, R16_3⟩ := row2 R16.out
                go_wp2_with fail
                clear R16_0 R16_1 R16_2 R16_3
                refine (HU1.out _).mono ?_
                rintro e wc ⟨p3, d3, rfl, k3, hb⟩
                replace hB := bstep hB hb
                have K3 := Lib.hid k3
                have R3 := Lib.hid (keep hb R3.out)
                have R5 := Lib.hid (keep hb R5.out)
                have R7 := Lib.hid (keep hb R7.out)
                have RB := Lib.hid (keep hb RB.out)
                have R16 := Lib.hid (keep hb R16.out)
                have R17 := Lib.hid (keep hb R17.out)
                have R19 := Lib.hid (keep hb R19.out)
                have K1 := Lib.hid (K1.out.below hb)
                have K2 := Lib.hid (K2.out.below hb)
                clear hb
                clear k3
                go_upto_region 25 with fail
                generalize hW : World.alloc _ _ = Yd
                obtain ⟨hb, hsz, R21⟩ := A1 hW
                replace hB := bstep hB hb
                have R3 := Lib.hid (keep hb R3.out)
                have R5 := Lib.hid (keep hb R5.out)
                have R7 := Lib.hid (keep hb R7.out)
                have RB := Lib.hid (keep hb RB.out)
                have R16 := Lib.hid (keep hb R16.out)
                have R17 := Lib.hid (keep hb R17.out)
                have R19 := Lib.hid (keep hb R19.out)
                have K1 := Lib.hid (K1.out.below hb)
                have K2 := Lib.hid (K2.out.below hb)
                have K3 := Lib.hid (K3.out.below hb)
                clear hb
                have R21 := Lib.hid R21
                clear hW hsz
                obtain ⟨R17_0, R17_1, R17_2, R17_3, R17_4, R17_5⟩ := row3 R17.out
                obtain ⟨R19_0, R19_1, R19_2, R19_3, R19_4, R19_5⟩ := row3 R19.out
                go_wp2_with fail
                clear R17_0 R17_1 R17_2 R17_3 R17_4 R17_5
                clear R19_0 R19_1 R19_2 R19_3 R19_4 R19_5
                refine (HA1.out m hm3 _ _ _ _ _ K1.out K2.out).mono ?_
                rintro e wd ⟨rfl, hb⟩
                replace hB := bstep hB hb
                have R3 := Lib.hid (keep hb R3.out)
                have R5 := Lib.hid (keep hb R5.out)
                have R7 := Lib.hid (keep hb R7.out)
                have RB := Lib.hid (keep hb RB.out)
                have R16 := Lib.hid (keep hb R16.out)
                have R17 := Lib.hid (keep hb R17.out)
                have R21 := Lib.hid (keep hb R21.out)
                have K1 := Lib.hid (K1.out.below hb)
                have K3 := Lib.hid (K3.out.below hb)
                clear hb
                obtain ⟨R17_0, R17_1, R17_2, R17_3, R17_4, R17_5⟩ := row3 R17.out
                obtain ⟨R21_0, R21_1, R21_2, R21_3, R21_4, R21_5⟩ := row3 R21.out
                go_wp2_with fail
                clear R17_0 R17_1 R17_2 R17_3 R17_4 R17_5
                clear R21_0 R21_1 R21_2 R21_3 R21_4 R21_5
                refine (HB1.out m hm3 _ _ _ _ _ K3.out K1.out).mono ?_
                rintro e we ⟨rfl, hb⟩
                replace hB := bstep hB hb
                have R3 := Lib.hid (keep hb R3.out)
                have R5 := Lib.hid (keep hb R5.out)
                have R7 := Lib.hid (keep hb R7.out)
                have RB := Lib.hid (keep hb RB.out)
                have R16 := Lib.hid (keep hb R16.out)
                clear hb
                clear R17 R19 R21 K1 K2 K3
                cases b2
                · skip
                  obtain ⟨R7_0, R7_1, R7_2, R7_3, R7_4, R7_5, R7_6, R7_7, R7_8, R7_9, R7_10, R7_11⟩ := row6f R7.out
                  obtain ⟨R16_0, R16_1, R16_2, R16_3⟩ := row2 R16.out
                  go_upto_region 28 with fail
                  clear R7_0 R7_1 R7_2 R7_3 R7_4 R7_5 R7_6 R7_7 R7_8 R7_9 R7_10 R7_11
                  clear R16_0 R16_1 R16_2 R16_3
                  generalize hE2 : ((C1 m).toList == L1.toList) = E2
                  have R7 := Lib.hid (by
                    have k := heap_setCell_same _ b7 2 _ _ (.bool E2) R7.out
                    simpa only [List.setIfInBounds_toArray, List.set_cons_zero, List.set_cons_succ] using k)
                  have R3 := Lib.hid (set_other n37.out R3.out (i := 2) (x := .bool E2))
                  have R5 := Lib.hid (set_other n57.out R5.out (i := 2) (x := .bool E2))
                  have RB := Lib.hid (set_other nB7.out.symm RB.out (i := 2) (x := .bool E2))
                  have R16 := Lib.hid (set_other n16.out R16.out (i := 2) (x := .bool E2))
                  have hB := set_below hB LB7.out (i := 2) (x := .bool E2)
                  have Q2 := Lib.hid (show Hit C1 L1 (m + 1) E2 from Hit.step (b := false) Q2.out (fun h => by rw [← hE2, h]; simp))
                  generalize World.setCell _ ⟨b7, 2, none⟩ _ = Z2 at *
                  cases b3
                  · skip
                    obtain ⟨R7_0, R7_1, R7_2, R7_3, R7_4, R7_5, R7_6, R7_7, R7_8, R7_9, R7_10, R7_11⟩ := row6f R7.out
                    obtain ⟨R16_0, R16_1, R16_2, R16_3⟩ := row2 R16.out
                    go_wp2_with fail
                    clear R7_0 R7_1 R7_2 R7_3 R7_4 R7_5 R7_6 R7_7 R7_8 R7_9 R7_10 R7_11
                    clear R16_0 R16_1 R16_2 R16_3
                    generalize hE3 : ((C1 m).toList == U1.toList) = E3
                    have R7 := Lib.hid (by
                      have k := heap_setCell_same _ b7 3 _ _ (.bool E3) R7.out
                      simpa only [List.setIfInBounds_toArray, List.set_cons_zero, List.set_cons_succ] using k)
                    have R3 := Lib.hid (set_other n37.out R3.out (i := 3) (x := .bool E3))
                    have R5 := Lib.hid (set_other n57.out R5.out (i := 3) (x := .bool E3))
                    have RB := Lib.hid (set_other nB7.out.symm RB.out (i := 3) (x := .bool E3))
                    have hB := set_below hB LB7.out (i := 3) (x := .bool E3)
                    have Q3 := Lib.hid (show Hit C1 U1 (m + 1) E3 from Hit.step (b := false) Q3.out (fun h => by rw [← hE3, h]; simp))
                    generalize World.setCell _ ⟨b7, 3, none⟩ _ = Z3 at *
                    go_roundw
                    case rel => exact ⟨2, b0, b1, E2, E3, b4, b5, by first | rfl | go_num, hB, R3, R5, R7, RB, Or.inr (Or.inr (Or.inl ⟨rfl, Q0, Q1, Q2, Q3, Q4, Q5⟩))⟩
                    case measure => decide
                  · skip
                    obtain ⟨R7_0, R7_1, R7_2, R7_3, R7_4, R7_5, R7_6, R7_7, R7_8, R7_9, R7_10, R7_11⟩ := row6f R7.out
                    obtain ⟨R16_0, R16_1, R16_2, R16_3⟩ := row2 R16.out
                    go_wp2_with fail
                    clear R7_0 R7_1 R7_2 R7_3 R7_4 R7_5 R7_6 R7_7 R7_8 R7_9 R7_10 R7_11
                    clear R16_0 R16_1 R16_2 R16_3
                    have R7 := Lib.hid (by
                      have k := heap_setCell_same _ b7 3 _ _ (.bool true) R7.out
                      simpa only [List.setIfInBounds_toArray, List.set_cons_zero, List.set_cons_succ] using k)
                    have R3 := Lib.hid (set_other n37.out R3.out (i := 3) (x := .bool true))
                    have R5 := Lib.hid (set_other n57.out R5.out (i := 3) (x := .bool true))
                    have RB := Lib.hid (set_other nB7.out.symm RB.out (i := 3) (x := .bool true))
                    have hB := set_below hB LB7.out (i := 3) (x := .bool true)
                    have Q3 := Lib.hid (Hit.yes C1 U1 (m + 1))
                    generalize World.setCell _ ⟨b7, 3, none⟩ _ = Z3 at *
                    go_roundw
                    case rel => exact ⟨2, b0, b1, E2, true, b4, b5, by first | rfl | go_num, hB, R3, R5, R7, RB, Or.inr (Or.inr (Or.inl ⟨rfl, Q0, Q1, Q2, Q3, Q4, Q5⟩))⟩
                    case measure => decide
                · skip
                  obtain ⟨R7_0, R7_1, R7_2, R7_3, R7_4, R7_5, R7_6, R7_7, R7_8, R7_9, R7_10, R7_11⟩ := row6f R7.out
                  obtain ⟨R16_0, R16_1, R16_2, R16_3⟩ := row2 R16.out
                  go_upto_region 28 with fail
                  clear R7_0 R7_1 R7_2 R7_3 R7_4 R7_5 R7_6 R7_7 R7_8 R7_9 R7_10 R7_11
                  clear R16_0 R16_1 R16_2 R16_3
                  have R7 := Lib.hid (by
                    have k := heap_setCell_same _ b7 2 _ _ (.bool true) R7.out
                    simpa only [List.setIfInBounds_toArray, List.set_cons_zero, List.set_cons_succ] using k)
                  have R3 := Lib.hid (set_other n37.out R3.out (i := 2) (x := .bool true))
                  have R5 := Lib.hid (set_other n57.out R5.out (i := 2) (x := .bool true))
                  have RB := Lib.hid (set_other nB7.out.symm RB.out (i := 2) (x := .bool true))
                  have R16 := Lib.hid (set_other n16.out R16.out (i := 2) (x := .bool true))
                  have hB := set_below hB LB7.out (i := 2) (x := .bool true)
                  have Q2 := Lib.hid (Hit.yes C1 L1 (m + 1))
                  generalize World.setCell _ ⟨b7, 2, none⟩ _ = Z2 at *
                  cases b3
                  · skip
                    obtain ⟨R7_0, R7_1, R7_2, R7_3, R7_4, R7_5, R7_6, R7_7, R7_8, R7_9, R7_10, R7_11⟩ := row6f R7.out
                    obtain ⟨R16_0, R16_1, R16_2, R16_3⟩ := row2 R16.out
                    go_wp2_with fail
                    clear R7_0 R7_1 R7_2 R7_3 R7_4 R7_5 R7_6 R7_7 R7_8 R7_9 R7_10 R7_11
                    clear R16_0 R16_1 R16_2 R16_3
                    generalize hE3 : ((C1 m).toList == U1.toList) = E3
                    have R7 := Lib.hid (by
                      have k := heap_setCell_same _ b7 3 _ _ (.bool E3) R7.out
                      simpa only [List.setIfInBounds_toArray, List.set_cons_zero, List.set_cons_succ] using k)
                    have R3 := Lib.hid (set_other n37.out R3.out (i := 3) (x := .bool E3))
                    have R5 := Lib.hid (set_other n57.out R5.out (i := 3) (x := .bool E3))
                    have RB := Lib.hid (set_other nB7.out.symm RB.out (i := 3) (x := .bool E3))
                    have hB := set_below hB LB7.out (i := 3) (x := .bool E3)
                    have Q3 := Lib.hid (show Hit C1 U1 (m + 1) E3 from Hit.step (b := false) Q3.out (fun h => by rw [← hE3, h]; simp))
                    generalize World.setCell _ ⟨b7, 3, none⟩ _ = Z3 at *
                    go_roundw
                    case rel => exact ⟨2, b0, b1, true, E3, b4, b5, by first | rfl | go_num, hB, R3, R5, R7, RB, Or.inr (Or.inr (Or.inl ⟨rfl, Q0, Q1, Q2, Q3, Q4, Q5⟩))⟩
                    case measure => decide
                  · skip
                    obtain ⟨R7_0, R7_1, R7_2, R7_3, R7_4, R7_5, R7_6, R7_7, R7_8, R7_9, R7_10, R7_11⟩ := row6f R7.out
                    obtain ⟨R16_0, R16_1, R16_2, R16_3⟩ := row2 R16.out
                    go_wp2_with fail
                    clear R7_0 R7_1 R7_2 R7_3 R7_4 R7_5 R7_6 R7_7 R7_8 R7_9 R7_10 R7_11
                    clear R16_0 R16_1 R16_2 R16_3
                    have R7 := Lib.hid (by
                      have k := heap_setCell_same _ b7 3 _ _ (.bool true) R7.out
                      simpa only [List.setIfInBounds_toArray, List.set_cons_zero, List.set_cons_succ] using k)
                    have R3 := Lib.hid (set_other n37.out R3.out (i := 3) (x := .bool true))
                    have R5 := Lib.hid (set_other n57.out R5.out (i := 3) (x := .bool true))
                    have RB := Lib.hid (set_other nB7.out.symm RB.out (i := 3) (x := .bool true))
                    have hB := set_below hB LB7.out (i := 3) (x := .bool true)
                    have Q3 := Lib.hid (Hit.yes C1 U1 (m + 1))
                    generalize World.setCell _ ⟨b7, 3, none⟩ _ = Z3 at *
                    go_roundw
                    case rel => exact ⟨2, b0, b1, true, true, b4, b5, by first | rfl | go_num, hB, R3, R5, R7, RB, Or.inr (Or.inr (Or.inl ⟨rfl, Q0, Q1, Q2, Q3, Q4, Q5⟩))⟩
                    case measure => decide
              · have n16 := Lib.hid (show wr.heap.size + 1 ≠ b7 by have := lp2 R7.out; omega)
                obtain ⟨RB_0, RB_1, RB_2, RB_3, RB_4, RB_5⟩ := row3 RB.out
                obtain ⟨R5_0, R5_1, R5_2, R5_3, R5_4, R5_5, R5_6, R5_7, R5_8, R5_9, R5_10, R5_11⟩ := row6f R5.out
                have lR := lp2 RB.out
                have lS := lp2 R5.out
                go_upto_region 22 with fail
                clear lR lS
                clear RB_0 RB_1 RB_2 RB_3 RB_4 RB_5
                clear R5_0 R5_1 R5_2 R5_3 R5_4 R5_5 R5_6 R5_7 R5_8 R5_9 R5_10 R5_11
                generalize hW : (World.alloc _ _).alloc _ = Ya
                obtain ⟨hb, hsz, RW, R16⟩ := A2 hW
                replace hB := bstep hB hb
                have R3 := Lib.hid (keep hb R3.out)
                have R5 := Lib.hid (keep hb R5.out)
                have R7 := Lib.hid (keep hb R7.out)
                have RB := Lib.hid (keep hb RB.out)
                clear hb
                have RW := Lib.hid RW
                have R16 := Lib.hid R16
                clear hW hsz
                go_wp2_with fail
                refine (HF2.out m hm3 _).mono ?_
                rintro e wa ⟨p1, d1, rfl, k1, hb⟩
                replace hB := bstep hB hb
                have K1 := Lib.hid k1
                have R3 := Lib.hid (keep hb R3.out)
                have R5 := Lib.hid (keep hb R5.out)
                have R7 := Lib.hid (keep hb R7.out)
                have RB := Lib.hid (keep hb RB.out)
                have R16 := Lib.hid (keep hb R16.out)
                clear hb
                clear k1 RW
                go_upto_region 23 with fail
                generalize hW : World.alloc _ _ = Yb
                obtain ⟨hb, hsz, R17⟩ := A1 hW
                replace hB := bstep hB hb
                have R3 := Lib.hid (keep hb R3.out)
                have R5 := Lib.hid (keep hb R5.out)
                have R7 := Lib.hid (keep hb R7.out)
                have RB := Lib.hid (keep hb RB.out)
                have R16 := Lib.hid (keep hb R16.out)
                have K1 := Lib.hid (K1.out.below hb)
                clear hb
                have R17 := Lib.hid R17
                clear hW hsz
                obtain ⟨R16_0, R16_1, R16_2, R16_3⟩ := row2 R16.out
                go_wp2_with fail
                clear R16_0 R16_1 R16_2 R16_3
                refine (HL2.out _).mono ?_
                rintro e wb ⟨p2, d2, rfl, k2, hb⟩
                replace hB := bstep hB hb
                have K2 := Lib.hid k2
                have R3 := Lib.hid (keep hb R3.out)
                have R5 := Lib.hid (keep hb R5.out)
                have R7 := Lib.hid (keep hb R7.out)
                have RB := Lib.hid (keep hb RB.out)
                have R16 := Lib.hid (keep hb R16.out)
                have R17 := Lib.hid (keep hb R17.out)
                have K1 := Lib.hid (K1.out.below hb)
                clear hb
                clear k2
                go_upto_region 24 with fail
                generalize hW : World.alloc _ _ = Yc
                obtain ⟨hb, hsz, R19⟩ := A1 hW
                replace hB := bstep hB hb
                have R3 := Lib.hid (keep hb R3.out)
                have R5 := Lib.hid (keep hb R5.out)
                have R7 := Lib.hid (keep hb R7.out)
                have RB := Lib.hid (keep hb RB.out)
                have R16 := Lib.hid (keep hb R16.out)
                have R17 := Lib.hid (keep hb R17.out)
                have K1 := Lib.hid (K1.out.below hb)
                have K2 := Lib.hid (K2.out.below hb)
                clear hb
                have R19 := Lib.hid R19
                clear hW hsz
                obtain ⟨R16_0, R16_1, R16_2, R16_3⟩ := row2 R16.out
                go_wp2_with fail
                clear R16_0 R16_1 R16_2 R16_3
                refine (HU2.out _).mono ?_
                rintro e wc ⟨p3, d3, rfl, k3, hb⟩
                replace hB := bstep hB hb
                have K3 := Lib.hid k3
                have R3 := Lib.hid (keep hb R3.out)
                have R5 := Lib.hid (keep hb R5.out)
                have R7 := Lib.hid (keep hb R7.out)
                have RB := Lib.hid (keep hb RB.out)
                have R16 := Lib.hid (keep hb R16.out)
                have R17 := Lib.hid (keep hb R17.out)
                have R19 := Lib.hid (keep hb R19.out)
                have K1 := Lib.hid (K1.out.below hb)
                have K2 := Lib.hid (K2.out.below hb)
                clear hb
                clear k3
                go_upto_region 25 with fail
                generalize hW : World.alloc _ _ = Yd
                obtain ⟨hb, hsz, R21⟩ := A1 hW
                replace hB := bstep hB hb
                have R3 := Lib.hid (keep hb R3.out)
                have R5 := Lib.hid (keep hb R5.out)
                have R7 := Lib.hid (keep hb R7.out)
                have RB := Lib.hid (keep hb RB.out)
                have R16 := Lib.hid (keep hb R16.out)
                have R17 := Lib.hid (keep hb R17.out)
                have R19 := Lib.hid (keep hb R19.out)
                have K1 := Lib.hid (K1.out.below hb)
                have K2 := Lib.hid (K2.out.below hb)
                have K3 := Lib.hid (K3.out.below hb)
                clear hb
                have R21 := Lib.hid R21
                clear hW hsz
                obtain ⟨R17_0, R17_1, R17_2, R17_3, R17_4, R17_5⟩ := row3 R17.out
                obtain ⟨R19_0, R19_1, R19_2, R19_3, R19_4, R19_5⟩ := row3 R19.out
                go_wp2_with fail
                clear R17_0 R17_1 R17_2 R17_3 R17_4 R17_5
                clear R19_0 R19_1 R19_2 R19_3 R19_4 R19_5
                refine (HA2.out m hm3 _ _ _ _ _ K1.out K2.out).mono ?_
                rintro e wd ⟨rfl, hb⟩
                replace hB := bstep hB hb
                have R3 := Lib.hid (keep hb R3.out)
                have R5 := Lib.hid (keep hb R5.out)
                have R7 := Lib.hid (keep hb R7.out)
                have RB := Lib.hid (keep hb RB.out)
                have R16 := Lib.hid (keep hb R16.out)
                have R17 := Lib.hid (keep hb R17.out)
                have R21 := Lib.hid (keep hb R21.out)
                have K1 := Lib.hid (K1.out.below hb)
                have K3 := Lib.hid (K3.out.below hb)
                clear hb
                obtain ⟨R17_0, R17_1, R17_2, R17_3, R17_4, R17_5⟩ := row3 R17.out
                obtain ⟨R21_0, R21_1, R21_2, R21_3, R21_4, R21_5⟩ := row3 R21.out
                go_wp2_with fail
                clear R17_0 R17_1 R17_2 R17_3 R17_4 R17_5
                clear R21_0 R21_1 R21_2 R21_3 R21_4 R21_5
                refine (HB2.out m hm3 _ _ _ _ _ K3.out K1.out).mono ?_
                rintro e we ⟨rfl, hb⟩
                replace hB := bstep hB hb
                have R3 := Lib.hid (keep hb R3.out)
                have R5 := Lib.hid (keep hb R5.out)
                have R7 := Lib.hid (keep hb R7.out)
                have RB := Lib.hid (keep hb RB.out)
                have R16 := Lib.hid (keep hb R16.out)
                clear hb
                clear R17 R19 R21 K1 K2 K3
                cases b4
                · skip
                  obtain ⟨R7_0, R7_1, R7_2, R7_3, R7_4, R7_5, R7_6, R7_7, R7_8, R7_9, R7_10, R7_11⟩ := row6f R7.out
                  obtain ⟨R16_0, R16_1, R16_2, R16_3⟩ := row2 R16.out
                  go_upto_region 28 with fail
                  clear R7_0 R7_1 R7_2 R7_3 R7_4 R7_5 R7_6 R7_7 R7_8 R7_9 R7_10 R7_11
                  clear R16_0 R16_1 R16_2 R16_3
                  generalize hE4 : ((C2 m).toList == L2.toList) = E4
                  have R7 := Lib.hid (by
                    have k := heap_setCell_same _ b7 4 _ _ (.bool E4) R7.out
                    simpa only [List.setIfInBounds_toArray, List.set_cons_zero, List.set_cons_succ] using k)
                  have R3 := Lib.hid (set_other n37.out R3.out (i := 4) (x := .bool E4))
                  have R5 := Lib.hid (set_other n57.out R5.out (i := 4) (x := .bool E4))
                  have RB := Lib.hid (set_other nB7.out.symm RB.out (i := 4) (x := .bool E4))
                  have R16 := Lib.hid (set_other n16.out R16.out (i := 4) (x := .bool E4))
                  have hB := set_below hB LB7.out (i := 4) (x := .bool E4)
                  have Q4 := Lib.hid (show Hit C2 L2 (m + 1) E4 from Hit.step (b := false) Q4.out (fun h => by rw [← hE4, h]; simp))
                  generalize World.setCell _ ⟨b7, 4, none⟩ _ = Z4 at *
                  cases b5
                  · skip
                    obtain ⟨R7_0, R7_1, R7_2, R7_3, R7_4, R7_5, R7_6, R7_7, R7_8, R7_9, R7_10, R7_11⟩ := row6f R7.out
                    obtain ⟨R16_0, R16_1, R16_2, R16_3⟩ := row2 R16.out
                    go_wp2_with fail
                    clear R7_0 R7_1 R7_2 R7_3 R7_4 R7_5 R7_6 R7_7 R7_8 R7_9 R7_10 R7_11
                    clear R16_0 R16_1 R16_2 R16_3
                    generalize hE5 : ((C2 m).toList == U2.toList) = E5
                    have R7 := Lib.hid (by
                      have k := heap_setCell_same _ b7 5 _ _ (.bool E5) R7.out
                      simpa only [List.setIfInBounds_toArray, List.set_cons_zero, List.set_cons_succ] using k)
                    have R3 := Lib.hid (set_other n37.out R3.out (i := 5) (x := .bool E5))
                    have R5 := Lib.hid (set_other n57.out R5.out (i := 5) (x := .bool E5))
                    have RB := Lib.hid (set_other nB7.out.symm RB.out (i := 5) (x := .bool E5))
                    have hB := set_below hB LB7.out (i := 5) (x := .bool E5)
                    have Q5 := Lib.hid (show Hit C2 U2 (m + 1) E5 from Hit.step (b := false) Q5.out (fun h => by rw [← hE5, h]; simp))
                    generalize World.setCell _ ⟨b7, 5, none⟩ _ = Z5 at *
                    go_roundw
                    case rel => exact ⟨3, b0, b1, b2, b3, E4, E5, by first | rfl | go_num, hB, R3, R5, R7, RB, Or.inr (Or.inr (Or.inr ⟨rfl, Q0, Q1, Q2, Q3, Q4, Q5⟩))⟩
                    case measure => decide
                  · skip
                    obtain ⟨R7_0, R7_1, R7_2, R7_3, R7_4, R7_5, R7_6, R7_7, R7_8, R7_9, R7_10, R7_11⟩ := row6f R7.out
                    obtain ⟨R16_0, R16_1, R16_2, R16_3⟩ := row2 R16.out
                    go_wp2_with fail
                    clear R7_0 R7_1 R7_2 R7_3 R7_4 R7_5 R7_6 R7_7 R7_8 R7_9 R7_10 R7_11
                    clear R16_0 R16_1 R16_2 R16_3
                    have R7 := Lib.hid (by
                      have k := heap_setCell_same _ b7 5 _ _ (.bool true) R7.out
                      simpa only [List.setIfInBounds_toArray, List.set_cons_zero, List.set_cons_succ] using k)
                    have R3 := Lib.hid (set_other n37.out R3.out (i := 5) (x := .bool true))
                    have R5 := Lib.hid (set_other n57.out R5.out (i := 5) (x := .bool true))
                    have RB := Lib.hid (set_other nB7.out.symm RB.out (i := 5) (x := .bool true))
                    have hB := set_below hB LB7.out (i := 5) (x := .bool true)
                    have Q5 := Lib.hid (Hit.yes C2 U2 (m + 1))
                    generalize World.setCell _ ⟨b7, 5, none⟩ _ = Z5 at *
                    go_roundw
                    case rel => exact ⟨3, b0, b1, b2, b3, E4, true, by first | rfl | go_num, hB, R3, R5, R7, RB, Or.inr (Or.inr (Or.inr ⟨rfl, Q0, Q1, Q2, Q3, Q4, Q5⟩))⟩
                    case measure => decide
                · skip
                  obtain ⟨R7_0, R7_1, R7_2, R7_3, R7_4, R7_5, R7_6, R7_7, R7_8, R7_9, R7_10, R7_11⟩ := row6f R7.out
                  obtain ⟨R16_0, R16_1, R16_2, R16_3⟩ := row2 R16.out
                  go_upto_region 28 with fail
                  clear R7_0 R7_1 R7_2 R7_3 R7_4 R7_5 R7_6 R7_7 R7_8 R7_9 R7_10 R7_11
                  clear R16_0 R16_1 R16_2 R16_3
                  have R7 := Lib.hid (by
                    have k := heap_setCell_same _ b7 4 _ _ (.bool true) R7.out
                    simpa only [List.setIfInBounds_toArray, List.set_cons_zero, List.set_cons_succ] using k)
                  have R3 := Lib.hid (set_other n37.out R3.out (i := 4) (x := .bool true))
                  have R5 := Lib.hid (set_other n57.out R5.out (i := 4) (x := .bool true))
                  have RB := Lib.hid (set_other nB7.out.symm RB.out (i := 4) (x := .bool true))
                  have R16 := Lib.hid (set_other n16.out R16.out (i := 4) (x := .bool true))
                  have hB := set_below hB LB7.out (i := 4) (x := .bool true)
                  have Q4 := Lib.hid (Hit.yes C2 L2 (m + 1))
                  generalize World.setCell _ ⟨b7, 4, none⟩ _ = Z4 at *
                  cases b5
                  · skip
                    obtain ⟨R7_0, R7_1, R7_2, R7_3, R7_4, R7_5, R7_6, R7_7, R7_8, R7_9, R7_10, R7_11⟩ := row6f R7.out
                    obtain ⟨R16_0, R16_1, R16_2, R16_3⟩ := row2 R16.out
                    go_wp2_with fail
                    clear R7_0 R7_1 R7_2 R7_3 R7_4 R7_5 R7_6 R7_7 R7_8 R7_9 R7_10 R7_11
                    clear R16_0 R16_1 R16_2 R16_3
                    generalize hE5 : ((C2 m).toList == U2.toList) = E5
                    have R7 := Lib.hid (by
                      have k := heap_setCell_same _ b7 5 _ _ (.bool E5) R7.out
                      simpa only [List.setIfInBounds_toArray, List.set_cons_zero, List.set_cons_succ] using k)
                    have R3 := Lib.hid (set_other n37.out R3.out (i := 5) (x := .bool E5))
                    have R5 := Lib.hid (set_other n57.out R5.out (i := 5) (x := .bool E5))
                    have RB := Lib.hid (set_other nB7.out.symm RB.out (i := 5) (x := .bool E5))
                    have hB := set_below hB LB7.out (i := 5) (x := .bool E5)
                    have Q5 := Lib.hid (show Hit C2 U2 (m + 1) E5 from Hit.step (b := false) Q5.out (fun h => by rw [← hE5, h]; simp))
                    generalize World.setCell _ ⟨b7, 5, none⟩ _ = Z5 at *
                    go_roundw
                    case rel => exact ⟨3, b0, b1, b2, b3, true, E5, by first | rfl | go_num, hB, R3, R5, R7, RB, Or.inr (Or.inr (Or.inr ⟨rfl, Q0, Q1, Q2, Q3, Q4, Q5⟩))⟩
                    case measure => decide
                  · skip
                    obtain ⟨R7_0, R7_1, R7_2, R7_3, R7_4, R7_5, R7_6, R7_7, R7_8, R7_9, R7_10, R7_11⟩ := row6f R7.out
                    obtain ⟨R16_0, R16_1, R16_2, R16_3⟩ := row2 R16.out
                    go_wp2_with fail
                    clear R7_0 R7_1 R7_2 R7_3 R7_4 R7_5 R7_6 R7_7 R7_8 R7_9 R7_10 R7_11
                    clear R16_0 R16_1 R16_2 R16_3
                    have R7 := Lib.hid (by
                      have k := heap_setCell_same _ b7 5 _ _ (.bool true) R7.out
                      simpa only [List.setIfInBounds_toArray, List.set_cons_zero, List.set_cons_succ] using k)
                    have R3 := Lib.hid (set_other n37.out R3.out (i := 5) (x := .bool true))
                    have R5 := Lib.hid (set_other n57.out R5.out (i := 5) (x := .bool true))
                    have RB := Lib.hid (set_other nB7.out.symm RB.out (i := 5) (x := .bool true))
                    have hB := set_below hB LB7.out (i := 5) (x := .bool true)
                    have Q5 := Lib.hid (Hit.yes C2 U2 (m + 1))
                    generalize World.setCell _ ⟨b7, 5, none⟩ _ = Z5 at *
                    go_roundw
                    case rel => exact ⟨3, b0, b1, b2, b3, true, true, by first | rfl | go_num, hB, R3, R5, R7, RB, Or.inr (Or.inr (Or.inr ⟨rfl, Q0, Q1, Q2, Q3, Q4, Q5⟩))⟩
                    case measure => decide
              · rw [hmk] at Q0 Q1 Q2 Q3 Q4 Q5
                go_wp2_with fail
                go_roundw
                case rel => exact ⟨j + 1, b0, b1, b2, b3, b4, b5, hj, by go_num, hB, R3, R5, R7, Q0, Q1, Q2, Q3, Q4, Q5⟩
                case measure => simp [intOf]; omega
          · have hj4 : j = 3 := by omega
            subst hj4
            rw [show k * 3 + 3 = (k + 1) * 3 by omega] at Q0 Q1 Q2 Q3 Q4 Q5
            go_wp2_with fail
            go_roundw
            case rel => exact ⟨k + 1, b0, b1, b2, b3, b4, b5, hlt, by go_num, hB, R3, R5, R7, Q0, Q1, Q2, Q3, Q4, Q5⟩
            case measure => simp [intOf]; omega
      · have hkn : k = n := by omega
        rw [hkn] at Q0 Q1 Q2 Q3 Q4 Q5
        obtain rfl := Q0.out.all HP0.out
        obtain rfl := Q1.out.all HQ0.out
        obtain rfl := Q2.out.all HP1.out
        obtain rfl := Q3.out.all HQ1.out
        obtain rfl := Q4.out.all HP2.out
        obtain rfl := Q5.out.all HQ2.out
        obtain ⟨c0, c1, c2, c3, c4, c5⟩ := rowc6 R7.out
        go_wp2_with fail
        go_ret
        exact ⟨rfl, hB⟩

end Go.Proofs.YtgbabmkclojgeaaGreatDoor
