/- A PART OF THE PROOF, JOINED OUT OF 3 TEXTS. -/
import Derived.Test.YthkkdepppjiaeaaGreatDoorQeRef
import Derived.Deep.MidRow
import Derived.Test.YthkkdepppjiaeaaGreatDoorQzRef
/- A whole struct stored by one law (World.setCells): its row, what it leaves as it was. -/
namespace Go.Proofs.YthkkdepppjiaeaaGreatDoor
open Go.RowKit Go.Shelf Go.Sort

theorem setCells_go (g : Nat) (t : TypeId) : ∀ (vs pre old : List Value) (w : World), w.heap[g]? = some (.cells (pre ++ old).toArray t (0, 0)) → old.length = vs.length →
    (w.setCells g pre.length vs).heap[g]? = some (.cells (pre ++ vs).toArray t (0, 0))
  | [], pre, old, w, h, hl => by
    obtain rfl := List.eq_nil_of_length_eq_zero hl
    exact h
  | v :: r, pre, [], w, h, hl => by simp at hl
  | v :: r, pre, x :: old, w, h, hl => by
    have h1 := heap_setCell_same w g pre.length _ _ v h
    have e : ((pre ++ x :: old).toArray.setIfInBounds pre.length v) = ((pre ++ [v]) ++ old).toArray := by simp
    rw [e] at h1
    have h2 := setCells_go g t r (pre ++ [v]) old (w.setCell ⟨g, pre.length, none⟩ v) h1 (by simpa using hl)
    have e2 : (pre ++ [v]).length = pre.length + 1 := by simp
    rw [e2] at h2
    have e3 : (pre ++ [v]) ++ r = pre ++ v :: r := by simp
    rw [e3] at h2
    exact h2
theorem setCells_row {w : World} {g : Nat} {cs : Array Value} {t : TypeId} (h : w.heap[g]? = some (.cells cs t (0, 0))) (vs : List Value) (hl : cs.size = vs.length) : (w.setCells g 0 vs).heap[g]? = some (.cells vs.toArray t (0, 0)) :=
  setCells_go g t vs [] cs.toList w (by simpa using h) (by simpa using hl)
theorem setCells_other {k g : Nat} (hne : k ≠ g) : ∀ (vs : List Value) (o : Nat) (w : World), (w.setCells g o vs).heap[k]? = w.heap[k]?
  | [], _, _ => rfl
  | v :: r, o, w => (setCells_other hne r (o + 1) (w.setCell ⟨g, o, none⟩ v)).trans (Below.heap_setCell w ⟨g, o, none⟩ v k hne)
theorem setCells_below {B g : Nat} {w0 : World} (hB : B ≤ g) : ∀ (vs : List Value) (o : Nat) (w : World), Below B w0 w → Below B w0 (w.setCells g o vs)
  | [], _, _, h => h
  | v :: r, o, _, h => setCells_below hB r (o + 1) _ (h.setCell (p := ⟨g, o, none⟩) hB v)
theorem there_row {w : World} {g : Nat} {cs : Array Value} {t : TypeId} (h : w.heap[g]? = some (.cells cs t (0, 0))) : w.there g 0 cs.size := by
  intro j hj
  rw [Nat.zero_add]
  have e : cs[j]? = some cs[j] := Array.getElem?_eq_getElem hj
  refine ⟨?_, frozen_of_row w g j _ _ h⟩
  have : w.cell? ⟨g, j, none⟩ = some cs[j] := by
    unfold World.cell?
    rw [h]
    exact e
  rw [this]; rfl
/-- Numbers keep: their rows do not begin with a bool. -/
theorem RN.setCells {w : World} {s : Sl} {n g : Nat} {x : Bool} (h : RN w s n) (hg : w.cell? ⟨g, 0, none⟩ = some (.bool x)) (vs : List Value) : RN (w.setCells g 0 vs) s n := by
  obtain ⟨A, c, e, h1, h2, h3⟩ := h
  refine ⟨A, c, e, h1, h2, ?_⟩
  rcases h3 with h3 | ⟨b, rfl, h3⟩
  · exact .inl h3
  · by_cases hl : 0 < (ws n).length
    · refine .inr ⟨b, rfl, fun j hj => ?_⟩
      have h0 := h3 0 hl
      have hne : b ≠ g := by
        rintro rfl
        rw [hg] at h0
        injection h0 with h0
        cases h0
      exact (World.cell?_of_block (w := w) (setCells_other hne vs 0 w)).trans (h3 j hj)
    · exact .inl (List.eq_nil_of_length_eq_zero (by omega))
end Go.Proofs.YthkkdepppjiaeaaGreatDoor

/- The reference of layer 16: FrameOf. -/
namespace Go.Proofs.YthkkdepppjiaeaaGreatDoor
open Go.RowKit Go.Shelf Go.Sort

attribute [local go_sem] Oper.semAt_some

theorem fr16_row : RowTy Tryz.prog 125 27 := rowTy_struct Tryz.underlying125 (by kernel_rfl)
theorem rvX_1 : rvX ⟨#[49]⟩ = 1 := by rw [← lit_1, rvX_rs]
theorem rvX_half : rvX ⟨#[49, 47, 50]⟩ = 1 / 2 := by rw [← lit_half, rvX_rs]


set_option maxRecDepth 100000 in
set_option maxHeartbeats 4000000 in
theorem r16_FrameOf_bad (a b : ByteArray) (w : World) (ha : a.size ≤ 100) (hb : b.size ≤ 100) (hv : (rvB a && rvB b) = false) :
    Calls Tryz.prog 77 #[.agg #[.string a, .string b]] w fun e w' => e = .returned (.tuple #[.agg #[.bool false, .slice none 0 0, .slice none 0 0, .bool false, .slice none 0 0, .slice none 0 0, .bool false, .slice none 0 0, .slice none 0 0, .bool false, .slice none 0 0, .slice none 0 0, .bool false, .slice none 0 0, .slice none 0 0, .bool false, .slice none 0 0, .slice none 0 0, .bool false, .slice none 0 0, .slice none 0 0, .bool false, .slice none 0 0, .slice none 0 0, .bool false, .slice none 0 0, .slice none 0 0], .int .i64 1]) ∧ Below w.heap.size w w' := by
  have H0 := Lib.hid (fun W => r3_From a W (Nat.le_trans ha (by decide)))
  have H1 := Lib.hid (fun W => r3_From b W (Nat.le_trans hb (by decide)))
  unfold FrP at H0 H1
  clear ha hb
  generalize rvX a = x at *
  generalize rvX b = y at *
  generalize sgB x.num = x0_ at *
  generalize sgB y.num = y0_ at *
  generalize rvB a = k at *
  generalize rvB b = j at *
  cases k <;> cases j
  · clear hv
    go_enter Tryz.func77, Tryz.ntmps77
    go_upto_region 1 with fail
    generalize hW : (World.alloc w _).alloc _ = W
    obtain ⟨hB, hsz, R1, R2⟩ := A2 hW
    have R1 := Lib.hid R1
    have R2 := Lib.hid R2
    clear hW hsz
    obtain ⟨c0, c1, f0, f1⟩ := row2 R1.out
    go_wp2_with fail
    clear c0 c1 f0 f1
    refine (H0.out _).mono ?_
    rintro e w1 ⟨p, d, rfl, h0, hb⟩
    replace hB := bstep hB hb
    have R1 := Lib.hid (keep hb R1.out)
    have R2 := Lib.hid (keep hb R2.out)
    have K0 := Lib.hid h0
    clear h0
    clear hb
    go_upto_region 2 with fail
    generalize hW : World.alloc _ _ = V
    obtain ⟨hb, hsz, R4⟩ := A1 hW
    replace hB := bstep hB hb
    have R1 := Lib.hid (keep hb R1.out)
    have R2 := Lib.hid (keep hb R2.out)
    have K0 := Lib.hid (K0.out.below hb)
    clear hb
    have R4 := Lib.hid R4
    clear hW hsz
    obtain ⟨c0, c1, f0, f1⟩ := row2 R1.out
    go_wp2_with fail
    clear c0 c1 f0 f1
    refine (H1.out _).mono ?_
    rintro e w2 ⟨s, t, rfl, h1, hb⟩
    replace hB := bstep hB hb
    have R2 := Lib.hid (keep hb R2.out)
    have R4 := Lib.hid (keep hb R4.out)
    have K0 := Lib.hid (K0.out.below hb)
    have K1 := Lib.hid h1
    clear h1
    clear hb
    go_upto_region 3 with fail
    generalize hW : World.alloc _ _ = V2
    obtain ⟨hb, hsz, R6⟩ := A1 hW
    replace hB := bstep hB hb
    have R2 := Lib.hid (keep hb R2.out)
    have R4 := Lib.hid (keep hb R4.out)
    have K0 := Lib.hid (K0.out.below hb)
    have K1 := Lib.hid (K1.out.below hb)
    clear hb
    have R6 := Lib.hid R6
    clear hW hsz
    have HT := Lib.hid (there_row R2.out)
    have HI : (Tryz.prog.info? 125).map (·.size) = some 27 := by kernel_rfl
    go_upto_region 4 with fail
    refine wp_region_lit ?_
    refine wpList_plain rfl (fun K hK => ?_)
    go_simp
    refine hK _ _ ?_
    refine wpList_store_mid rfl _ _ _ rfl (w.heap.size + 1) 0 _ rfl rfl HT.out HI (by kernel_rfl) ?_
    simp only [Act.put]
    have E2 := setCells_row R2.out ([.bool false, .slice none 0 0, .slice none 0 0, .bool false, .slice none 0 0, .slice none 0 0, .bool false, .slice none 0 0, .slice none 0 0, .bool false, .slice none 0 0, .slice none 0 0, .bool false, .slice none 0 0, .slice none 0 0, .bool false, .slice none 0 0, .slice none 0 0, .bool false, .slice none 0 0, .slice none 0 0, .bool false, .slice none 0 0, .slice none 0 0, .bool false, .slice none 0 0, .slice none 0 0] : List Value) rfl
    have hB := setCells_below (show w.heap.size ≤ w.heap.size + 1 by omega) ([.bool false, .slice none 0 0, .slice none 0 0, .bool false, .slice none 0 0, .slice none 0 0, .bool false, .slice none 0 0, .slice none 0 0, .bool false, .slice none 0 0, .slice none 0 0, .bool false, .slice none 0 0, .slice none 0 0, .bool false, .slice none 0 0, .slice none 0 0, .bool false, .slice none 0 0, .slice none 0 0, .bool false, .slice none 0 0, .slice none 0 0, .bool false, .slice none 0 0, .slice none 0 0] : List Value) 0 _ hB
    generalize World.setCells _ _ _ _ = X at *
    go_wp2_with fail
    exact bodyPost_ret (res_ct rfl fr16_row rfl E2 rfl) rfl ⟨rfl, hB⟩
  · clear hv
    go_enter Tryz.func77, Tryz.ntmps77
    go_upto_region 1 with fail
    generalize hW : (World.alloc w _).alloc _ = W
    obtain ⟨hB, hsz, R1, R2⟩ := A2 hW
    have R1 := Lib.hid R1
    have R2 := Lib.hid R2
    clear hW hsz
    obtain ⟨c0, c1, f0, f1⟩ := row2 R1.out
    go_wp2_with fail
    clear c0 c1 f0 f1
    refine (H0.out _).mono ?_
    rintro e w1 ⟨p, d, rfl, h0, hb⟩
    replace hB := bstep hB hb
    have R1 := Lib.hid (keep hb R1.out)
    have R2 := Lib.hid (keep hb R2.out)
    have K0 := Lib.hid h0
    clear h0
    clear hb
    go_upto_region 2 with fail
    generalize hW : World.alloc _ _ = V
    obtain ⟨hb, hsz, R4⟩ := A1 hW
    replace hB := bstep hB hb
    have R1 := Lib.hid (keep hb R1.out)
    have R2 := Lib.hid (keep hb R2.out)
    have K0 := Lib.hid (K0.out.below hb)
    clear hb
    have R4 := Lib.hid R4
    clear hW hsz
    obtain ⟨c0, c1, f0, f1⟩ := row2 R1.out
    go_wp2_with fail
    clear c0 c1 f0 f1
    refine (H1.out _).mono ?_
    rintro e w2 ⟨s, t, rfl, h1, hb⟩
    replace hB := bstep hB hb
    have R2 := Lib.hid (keep hb R2.out)
    have R4 := Lib.hid (keep hb R4.out)
    have K0 := Lib.hid (K0.out.below hb)
    have K1 := Lib.hid h1
    clear h1
    clear hb
    go_upto_region 3 with fail
    generalize hW : World.alloc _ _ = V2
    obtain ⟨hb, hsz, R6⟩ := A1 hW
    replace hB := bstep hB hb
    have R2 := Lib.hid (keep hb R2.out)
    have R4 := Lib.hid (keep hb R4.out)
    have K0 := Lib.hid (K0.out.below hb)
    have K1 := Lib.hid (K1.out.below hb)
    clear hb
    have R6 := Lib.hid R6
    clear hW hsz
    have HT := Lib.hid (there_row R2.out)
    have HI : (Tryz.prog.info? 125).map (·.size) = some 27 := by kernel_rfl
    go_upto_region 4 with fail
    refine wp_region_lit ?_
    refine wpList_plain rfl (fun K hK => ?_)
    go_simp
    refine hK _ _ ?_
    refine wpList_store_mid rfl _ _ _ rfl (w.heap.size + 1) 0 _ rfl rfl HT.out HI (by kernel_rfl) ?_
    simp only [Act.put]
    have E2 := setCells_row R2.out ([.bool false, .slice none 0 0, .slice none 0 0, .bool false, .slice none 0 0, .slice none 0 0, .bool false, .slice none 0 0, .slice none 0 0, .bool false, .slice none 0 0, .slice none 0 0, .bool false, .slice none 0 0, .slice none 0 0, .bool false, .slice none 0 0, .slice none 0 0, .bool false, .slice none 0 0, .slice none 0 0, .bool false, .slice none 0 0, .slice none 0 0, .bool false, .slice none 0 0, .slice none 0 0] : List Value) rfl
    have hB := setCells_below (show w.heap.size ≤ w.heap.size + 1 by omega) ([.bool false, .slice none 0 0, .slice none 0 0, .bool false, .slice none 0 0, .slice none 0 0, .bool false, .slice none 0 0, .slice none 0 0, .bool false, .slice none 0 0, .slice none 0 0, .bool false, .slice none 0 0, .slice none 0 0, .bool false, .slice none 0 0, .slice none 0 0, .bool false, .slice none 0 0, .slice none 0 0, .bool false, .slice none 0 0, .slice none 0 0, .bool false, .slice none 0 0, .slice none 0 0] : List Value) 0 _ hB
    generalize World.setCells _ _ _ _ = X at *
    go_wp2_with fail
    exact bodyPost_ret (res_ct rfl fr16_row rfl E2 rfl) rfl ⟨rfl, hB⟩
  · clear hv
    go_enter Tryz.func77, Tryz.ntmps77
    go_upto_region 1 with fail
    generalize hW : (World.alloc w _).alloc _ = W
    obtain ⟨hB, hsz, R1, R2⟩ := A2 hW
    have R1 := Lib.hid R1
    have R2 := Lib.hid R2
    clear hW hsz
    obtain ⟨c0, c1, f0, f1⟩ := row2 R1.out
    go_wp2_with fail
    clear c0 c1 f0 f1
    refine (H0.out _).mono ?_
    rintro e w1 ⟨p, d, rfl, h0, hb⟩
    replace hB := bstep hB hb
    have R1 := Lib.hid (keep hb R1.out)
    have R2 := Lib.hid (keep hb R2.out)
    have K0 := Lib.hid h0
    clear h0
    clear hb
    go_upto_region 2 with fail
    generalize hW : World.alloc _ _ = V
    obtain ⟨hb, hsz, R4⟩ := A1 hW
    replace hB := bstep hB hb
    have R1 := Lib.hid (keep hb R1.out)
    have R2 := Lib.hid (keep hb R2.out)
    have K0 := Lib.hid (K0.out.below hb)
    clear hb
    have R4 := Lib.hid R4
    clear hW hsz
    obtain ⟨c0, c1, f0, f1⟩ := row2 R1.out
    go_wp2_with fail
    clear c0 c1 f0 f1
    refine (H1.out _).mono ?_
    rintro e w2 ⟨s, t, rfl, h1, hb⟩
    replace hB := bstep hB hb
    have R2 := Lib.hid (keep hb R2.out)
    have R4 := Lib.hid (keep hb R4.out)
    have K0 := Lib.hid (K0.out.below hb)
    have K1 := Lib.hid h1
    clear h1
    clear hb
    go_upto_region 3 with fail
    generalize hW : World.alloc _ _ = V2
    obtain ⟨hb, hsz, R6⟩ := A1 hW
    replace hB := bstep hB hb
    have R2 := Lib.hid (keep hb R2.out)
    have R4 := Lib.hid (keep hb R4.out)
    have K0 := Lib.hid (K0.out.below hb)
    have K1 := Lib.hid (K1.out.below hb)
    clear hb
    have R6 := Lib.hid R6
    clear hW hsz
    have HT := Lib.hid (there_row R2.out)
    have HI : (Tryz.prog.info? 125).map (·.size) = some 27 := by kernel_rfl
    go_upto_region 4 with fail
    refine wp_region_lit ?_
    refine wpList_plain rfl (fun K hK => ?_)
    go_simp
    refine hK _ _ ?_
    refine wpList_store_mid rfl _ _ _ rfl (w.heap.size + 1) 0 _ rfl rfl HT.out HI (by kernel_rfl) ?_
    simp only [Act.put]
    have E2 := setCells_row R2.out ([.bool false, .slice none 0 0, .slice none 0 0, .bool false, .slice none 0 0, .slice none 0 0, .bool false, .slice none 0 0, .slice none 0 0, .bool false, .slice none 0 0, .slice none 0 0, .bool false, .slice none 0 0, .slice none 0 0, .bool false, .slice none 0 0, .slice none 0 0, .bool false, .slice none 0 0, .slice none 0 0, .bool false, .slice none 0 0, .slice none 0 0, .bool false, .slice none 0 0, .slice none 0 0] : List Value) rfl
    have hB := setCells_below (show w.heap.size ≤ w.heap.size + 1 by omega) ([.bool false, .slice none 0 0, .slice none 0 0, .bool false, .slice none 0 0, .slice none 0 0, .bool false, .slice none 0 0, .slice none 0 0, .bool false, .slice none 0 0, .slice none 0 0, .bool false, .slice none 0 0, .slice none 0 0, .bool false, .slice none 0 0, .slice none 0 0, .bool false, .slice none 0 0, .slice none 0 0, .bool false, .slice none 0 0, .slice none 0 0, .bool false, .slice none 0 0, .slice none 0 0] : List Value) 0 _ hB
    generalize World.setCells _ _ _ _ = X at *
    go_wp2_with fail
    exact bodyPost_ret (res_ct rfl fr16_row rfl E2 rfl) rfl ⟨rfl, hB⟩
  · exact absurd hv (by decide)


set_option maxRecDepth 100000 in
set_option maxHeartbeats 4000000 in
theorem r16_FrameOf_out (a b : ByteArray) (w : World) (ha : a.size ≤ 100) (hb : b.size ≤ 100) (hv : (rvB a && rvB b) = true) (ho : (outQ (rvX a) 1 || outQ (rvX b) (1 / 2)) = true) :
    Calls Tryz.prog 77 #[.agg #[.string a, .string b]] w fun e w' => e = .returned (.tuple #[.agg #[.bool false, .slice none 0 0, .slice none 0 0, .bool false, .slice none 0 0, .slice none 0 0, .bool false, .slice none 0 0, .slice none 0 0, .bool false, .slice none 0 0, .slice none 0 0, .bool false, .slice none 0 0, .slice none 0 0, .bool false, .slice none 0 0, .slice none 0 0, .bool false, .slice none 0 0, .slice none 0 0, .bool false, .slice none 0 0, .slice none 0 0, .bool false, .slice none 0 0, .slice none 0 0], .int .i64 2]) ∧ Below w.heap.size w w' := by
  have H0 := Lib.hid (fun W => r3_From a W (Nat.le_trans ha (by decide)))
  have H1 := Lib.hid (fun W => r3_From b W (Nat.le_trans hb (by decide)))
  unfold FrP at H0 H1
  have z1 : Sz 101 (rvX a) := sz_rvX ha (by decide)
  have z2 : Sz 101 (rvX b) := sz_rvX hb (by decide)
  have h2 := fun W => r16_N ⟨#[49]⟩ W (by decide)
  have h4 := fun W => r16_N ⟨#[49, 47, 50]⟩ W (by decide)
  rw [rvX_1] at h2
  rw [rvX_half] at h4
  have H2 := Lib.hid h2
  have H4 := Lib.hid h4
  have H3 := Lib.hid (fun W p d s t (k0 : RQ W p d (rvX a)) (k1 : RQ W s t 1) => r16_outside (rvX a) 1 p d s t W k0 k1 (z1.mono (by decide)) (sz_one.mono (by decide)))
  have H5 := Lib.hid (fun W p d s t (k0 : RQ W p d (rvX b)) (k1 : RQ W s t (1 / 2)) => r16_outside (rvX b) (1 / 2) p d s t W k0 k1 (z2.mono (by decide)) (sz_half.mono (by decide)))
  rw [Bool.and_eq_true] at hv
  rw [hv.1] at H0
  rw [hv.2] at H1
  clear ha hb z1 z2 h2 h4 hv
  generalize rvX a = x at *
  generalize rvX b = y at *
  generalize outQ x 1 = b1 at *
  generalize outQ y (1 / 2) = b2 at *
  generalize (1 : Rat) / 2 = hf at *
  generalize (1 : Rat) = on at *
  generalize sgB hf.num = hf0_ at *
  generalize sgB on.num = on0_ at *
  generalize sgB x.num = x0_ at *
  generalize sgB y.num = y0_ at *
  cases b1
  · cases b2
    · exact absurd ho (by decide)
    · clear ho
      go_enter Tryz.func77, Tryz.ntmps77
      go_upto_region 1 with fail
      generalize hW : (World.alloc w _).alloc _ = W
      obtain ⟨hB, hsz, R1, R2⟩ := A2 hW
      have R1 := Lib.hid R1
      have R2 := Lib.hid R2
      clear hW hsz
      obtain ⟨c0, c1, f0, f1⟩ := row2 R1.out
      go_wp2_with fail
      clear c0 c1 f0 f1
      refine (H0.out _).mono ?_
      rintro e w1 ⟨p, d, rfl, h0, hb⟩
      replace hB := bstep hB hb
      have R1 := Lib.hid (keep hb R1.out)
      have R2 := Lib.hid (keep hb R2.out)
      have K0 := Lib.hid h0
      clear h0
      clear hb
      go_upto_region 2 with fail
      generalize hW : World.alloc _ _ = V
      obtain ⟨hb, hsz, R4⟩ := A1 hW
      replace hB := bstep hB hb
      have R1 := Lib.hid (keep hb R1.out)
      have R2 := Lib.hid (keep hb R2.out)
      have K0 := Lib.hid (K0.out.below hb)
      clear hb
      have R4 := Lib.hid R4
      clear hW hsz
      obtain ⟨c0, c1, f0, f1⟩ := row2 R1.out
      go_wp2_with fail
      clear c0 c1 f0 f1
      refine (H1.out _).mono ?_
      rintro e w2 ⟨s, t, rfl, h1, hb⟩
      replace hB := bstep hB hb
      have R2 := Lib.hid (keep hb R2.out)
      have R4 := Lib.hid (keep hb R4.out)
      have K0 := Lib.hid (K0.out.below hb)
      have K1 := Lib.hid h1
      clear h1
      clear hb
      go_upto_region 3 with fail
      generalize hW : World.alloc _ _ = V2
      obtain ⟨hb, hsz, R6⟩ := A1 hW
      replace hB := bstep hB hb
      have R2 := Lib.hid (keep hb R2.out)
      have R4 := Lib.hid (keep hb R4.out)
      have K0 := Lib.hid (K0.out.below hb)
      have K1 := Lib.hid (K1.out.below hb)
      clear hb
      have R6 := Lib.hid R6
      clear hW hsz
      go_wp2_with fail
      have LR4 := fun (w' : World) (h : Ap V2.heap.size V2.heap.size V2 w') => rowc3 (h.rowV R4.out)
      have LR6 := fun (w' : World) (h : Ap V2.heap.size V2.heap.size V2 w') => rowc3 (h.rowV R6.out)
      have hvr := Below.refl V2.heap.size V2
      have hv0 := hvr.drew
      first
      | go_region_held3 (fun w' => Ap V2.heap.size V2.heap.size V2 w') (first | (with_reducible assumption) | (with_reducible exact Ap.refl _ _ _) | ((repeat (first | with_reducible assumption | with_reducible exact Ap.refl _ _ _ | with_reducible refine Ap.drew ?_ | with_reducible refine Ap.alloc ?_ | with_reducible refine Ap.set1 ?_ | with_reducible refine Ap.set2 ?_ | with_reducible refine Ap.setN (by first | with_reducible assumption | with_reducible exact Nat.le_refl _ | with_reducible exact Nat.le_add_right _ _ | with_reducible exact Nat.le_trans (by assumption) (Nat.le_add_right _ _)) ?_)); done))
          (first
            | (go_at_call 114; (with_reducible refine (H2.out _ ).mono ?_); rintro e wq0 ⟨p_0, d_0, rfl, hk_0, hb⟩; have hv1 : Below V2.heap.size V2 wq0 := (by first | with_reducible exact bstep (hv0) hb); have hs1 := Ap.of_below (g := V2.heap.size) (h := V2.heap.size) hv1; have sz1 := hv1.size; have K0 := Lib.hid (by first | with_reducible exact K0.out.below hb | with_reducible exact (K0.out.below (Below.drew (Below.refl _ _))).below hb); have K1 := Lib.hid (by first | with_reducible exact K1.out.below hb | with_reducible exact (K1.out.below (Below.drew (Below.refl _ _))).below hb); have L0 := Lib.hid hk_0; clear hk_0; clear hb)
            | (go_at_call 113; (with_reducible refine (H3.out _  p d p_0 d_0 (by first | with_reducible exact K0.out | with_reducible exact (K0.out.below (Below.drew (Below.refl _ _)))) (by first | with_reducible exact L0.out | with_reducible exact (L0.out.below (Below.drew (Below.refl _ _))))).mono ?_); rintro e wq1 ⟨rfl, hb⟩; have hv2 : Below V2.heap.size V2 wq1 := (by first | with_reducible exact bstep (hv1) hb); have hs2 := Ap.of_below (g := V2.heap.size) (h := V2.heap.size) hv2; have sz2 := hv2.size; have K0 := Lib.hid (by first | with_reducible exact K0.out.below hb | with_reducible exact (K0.out.below (Below.drew (Below.refl _ _))).below hb); have K1 := Lib.hid (by first | with_reducible exact K1.out.below hb | with_reducible exact (K1.out.below (Below.drew (Below.refl _ _))).below hb); have L0 := Lib.hid (by first | with_reducible exact L0.out.below hb | with_reducible exact (L0.out.below (Below.drew (Below.refl _ _))).below hb); clear hb)
            | (go_at_call 114; (with_reducible refine (H4.out _ ).mono ?_); rintro e wq2 ⟨p_2, d_2, rfl, hk_2, hb⟩; have hv3 : Below V2.heap.size V2 wq2 := (by first | with_reducible exact bstep (hv2) hb); have hs3 := Ap.of_below (g := V2.heap.size) (h := V2.heap.size) hv3; have sz3 := hv3.size; have K0 := Lib.hid (by first | with_reducible exact K0.out.below hb | with_reducible exact (K0.out.below (Below.drew (Below.refl _ _))).below hb); have K1 := Lib.hid (by first | with_reducible exact K1.out.below hb | with_reducible exact (K1.out.below (Below.drew (Below.refl _ _))).below hb); have L0 := Lib.hid (by first | with_reducible exact L0.out.below hb | with_reducible exact (L0.out.below (Below.drew (Below.refl _ _))).below hb); have L2 := Lib.hid hk_2; clear hk_2; clear hb)
            | (go_at_call 113; (with_reducible refine (H5.out _  s t p_2 d_2 (by first | with_reducible exact K1.out | with_reducible exact (K1.out.below (Below.drew (Below.refl _ _)))) (by first | with_reducible exact L2.out | with_reducible exact (L2.out.below (Below.drew (Below.refl _ _))))).mono ?_); rintro e wq3 ⟨rfl, hb⟩; have hv4 : Below V2.heap.size V2 wq3 := (by first | with_reducible exact bstep (hv3) hb); have hs4 := Ap.of_below (g := V2.heap.size) (h := V2.heap.size) hv4; have sz4 := hv4.size; have K0 := Lib.hid (by first | with_reducible exact K0.out.below hb | with_reducible exact (K0.out.below (Below.drew (Below.refl _ _))).below hb); have K1 := Lib.hid (by first | with_reducible exact K1.out.below hb | with_reducible exact (K1.out.below (Below.drew (Below.refl _ _))).below hb); have L0 := Lib.hid (by first | with_reducible exact L0.out.below hb | with_reducible exact (L0.out.below (Below.drew (Below.refl _ _))).below hb); have L2 := Lib.hid (by first | with_reducible exact L2.out.below hb | with_reducible exact (L2.out.below (Below.drew (Below.refl _ _))).below hb); clear hb))
      | fail
      all_goals
        have R2 := Lib.hid (keep hv4 R2.out)
        replace hB := bstep hB hv4
        have HT := Lib.hid (there_row R2.out)
        have HI : (Tryz.prog.info? 125).map (·.size) = some 27 := by kernel_rfl
        go_upto_region 6 with fail
        refine wp_region_lit ?_
        refine wpList_plain rfl (fun K hK => ?_)
        go_simp
        refine hK _ _ ?_
        refine wpList_store_mid rfl _ _ _ rfl (w.heap.size + 1) 0 _ rfl rfl HT.out HI (by kernel_rfl) ?_
        simp only [Act.put]
        have E2 := setCells_row R2.out ([.bool false, .slice none 0 0, .slice none 0 0, .bool false, .slice none 0 0, .slice none 0 0, .bool false, .slice none 0 0, .slice none 0 0, .bool false, .slice none 0 0, .slice none 0 0, .bool false, .slice none 0 0, .slice none 0 0, .bool false, .slice none 0 0, .slice none 0 0, .bool false, .slice none 0 0, .slice none 0 0, .bool false, .slice none 0 0, .slice none 0 0, .bool false, .slice none 0 0, .slice none 0 0] : List Value) rfl
        have hB := setCells_below (show w.heap.size ≤ w.heap.size + 1 by omega) ([.bool false, .slice none 0 0, .slice none 0 0, .bool false, .slice none 0 0, .slice none 0 0, .bool false, .slice none 0 0, .slice none 0 0, .bool false, .slice none 0 0, .slice none 0 0, .bool false, .slice none 0 0, .slice none 0 0, .bool false, .slice none 0 0, .slice none 0 0, .bool false, .slice none 0 0, .slice none 0 0, .bool false, .slice none 0 0, .slice none 0 0, .bool false, .slice none 0 0, .slice none 0 0] : List Value) 0 _ hB
        generalize World.setCells _ _ _ _ = X at *
        go_wp2_with fail
        exact bodyPost_ret (res_ct rfl fr16_row rfl E2 rfl) rfl ⟨rfl, hB⟩
  · clear ho
    go_enter Tryz.func77, Tryz.ntmps77
    go_upto_region 1 with fail
    generalize hW : (World.alloc w _).alloc _ = W
    obtain ⟨hB, hsz, R1, R2⟩ := A2 hW
    have R1 := Lib.hid R1
    have R2 := Lib.hid R2
    clear hW hsz
    obtain ⟨c0, c1, f0, f1⟩ := row2 R1.out
    go_wp2_with fail
    clear c0 c1 f0 f1
    refine (H0.out _).mono ?_
    rintro e w1 ⟨p, d, rfl, h0, hb⟩
    replace hB := bstep hB hb
    have R1 := Lib.hid (keep hb R1.out)
    have R2 := Lib.hid (keep hb R2.out)
    have K0 := Lib.hid h0
    clear h0
    clear hb
    have n1 := Lib.hid (show w.heap.size + 1 < w1.heap.size from lt_of_row R2.out)
    go_upto_region 2 with fail
    generalize hW : World.alloc _ _ = V
    obtain ⟨hb, hsz, R4⟩ := A1 hW
    replace hB := bstep hB hb
    have R1 := Lib.hid (keep hb R1.out)
    have R2 := Lib.hid (keep hb R2.out)
    have K0 := Lib.hid (K0.out.below hb)
    clear hb
    have R4 := Lib.hid R4
    clear hW hsz
    obtain ⟨c0, c1, f0, f1⟩ := row2 R1.out
    go_wp2_with fail
    clear c0 c1 f0 f1
    refine (H1.out _).mono ?_
    rintro e w2 ⟨s, t, rfl, h1, hb⟩
    replace hB := bstep hB hb
    have R2 := Lib.hid (keep hb R2.out)
    have R4 := Lib.hid (keep hb R4.out)
    have K0 := Lib.hid (K0.out.below hb)
    have K1 := Lib.hid h1
    clear h1
    clear hb
    have n2 := Lib.hid (show w.heap.size + 1 < w2.heap.size from lt_of_row R2.out)
    go_upto_region 3 with fail
    generalize hW : World.alloc _ _ = V2
    obtain ⟨hb, hsz, R6⟩ := A1 hW
    replace hB := bstep hB hb
    have R2 := Lib.hid (keep hb R2.out)
    have R4 := Lib.hid (keep hb R4.out)
    have K0 := Lib.hid (K0.out.below hb)
    have K1 := Lib.hid (K1.out.below hb)
    clear hb
    have R6 := Lib.hid R6
    clear hW hsz
    go_wp2_with fail
    have hB0 := hB.drew
    have n1 : w.heap.size + 1 < w1.heap.size := n1.out
    obtain ⟨x0, x1, x2⟩ := rowc3 R4.out
    obtain ⟨y0, y1, y2⟩ := rowc3 R6.out
    first
    | go_region_with (first
        | (go_at_call 114; (with_reducible refine (H2.out _).mono ?_); rintro e wq0 ⟨p_0, d_0, rfl, hk_0, hb⟩; have hB1 := bstep hB0 hb; have K0 := Lib.hid ((K0.out.below (Below.drew (Below.refl _ _))).below hb); have L0 := Lib.hid hk_0; clear hk_0; obtain ⟨x0, x1, x2⟩ := rowc3 (keep hb R4.out); obtain ⟨y0, y1, y2⟩ := rowc3 (keep hb R6.out); have R2 := Lib.hid (keep hb R2.out); clear hb)
        | (go_at_call 113; (with_reducible refine (H3.out _ _ _ _ _ K0.out L0.out).mono ?_); rintro e wq1 ⟨rfl, hb⟩; have hB2 := bstep hB1 hb; have R2 := Lib.hid (keep hb R2.out); clear hb))
    | fail
    all_goals
      have hB := hB2
      have HT := Lib.hid (there_row R2.out)
      have HI : (Tryz.prog.info? 125).map (·.size) = some 27 := by kernel_rfl
      go_upto_region 6 with fail
      refine wp_region_lit ?_
      refine wpList_plain rfl (fun K hK => ?_)
      go_simp
      refine hK _ _ ?_
      refine wpList_store_mid rfl _ _ _ rfl (w.heap.size + 1) 0 _ rfl rfl HT.out HI (by kernel_rfl) ?_
      simp only [Act.put]
      have E2 := setCells_row R2.out ([.bool false, .slice none 0 0, .slice none 0 0, .bool false, .slice none 0 0, .slice none 0 0, .bool false, .slice none 0 0, .slice none 0 0, .bool false, .slice none 0 0, .slice none 0 0, .bool false, .slice none 0 0, .slice none 0 0, .bool false, .slice none 0 0, .slice none 0 0, .bool false, .slice none 0 0, .slice none 0 0, .bool false, .slice none 0 0, .slice none 0 0, .bool false, .slice none 0 0, .slice none 0 0] : List Value) rfl
      have hB := setCells_below (show w.heap.size ≤ w.heap.size + 1 by omega) ([.bool false, .slice none 0 0, .slice none 0 0, .bool false, .slice none 0 0, .slice none 0 0, .bool false, .slice none 0 0, .slice none 0 0, .bool false, .slice none 0 0, .slice none 0 0, .bool false, .slice none 0 0, .slice none 0 0, .bool false, .slice none 0 0, .slice none 0 0, .bool false, .slice none 0 0, .slice none 0 0, .bool false, .slice none 0 0, .slice none 0 0, .bool false, .slice none 0 0, .slice none 0 0] : List Value) 0 _ hB
      generalize World.setCells _ _ _ _ = X at *
      go_wp2_with fail
      exact bodyPost_ret (res_ct rfl fr16_row rfl E2 rfl) rfl ⟨rfl, hB⟩


end Go.Proofs.YthkkdepppjiaeaaGreatDoor

/- The reference of layer 16: FrameOf at valid attitudes. -/
namespace Go.Proofs.YthkkdepppjiaeaaGreatDoor
open Go.RowKit Go.Shelf Go.Sort

attribute [local go_sem] Oper.semAt_some

theorem setCells_size (g : Nat) : ∀ (vs : List Value) (o : Nat) (w : World), (w.setCells g o vs).heap.size = w.heap.size
  | [], _, _ => rfl
  | v :: r, o, w => (setCells_size g r (o + 1) (w.setCell ⟨g, o, none⟩ v)).trans (by simp [World.setCell])
theorem Ap.setG {g h o : Nat} {V w : World} {vs : List Value} (ha : Ap g h V w) : Ap g h V (w.setCells g o vs) :=
  ⟨by have := ha.size; rw [setCells_size]; exact this, fun k hk h1 h2 => (setCells_other h1 vs o w).trans (ha.block k hk h1 h2)⟩
theorem RQ.setCells {w : World} {p d : Sl} {y : Rat} {g : Nat} {x : Bool} (h : RQ w p d y) (hg : w.cell? ⟨g, 0, none⟩ = some (.bool x)) (vs : List Value) : RQ (w.setCells g 0 vs) p d y := ⟨h.num.setCells hg vs, h.den.setCells hg vs⟩
theorem fr16_size : (Tryz.prog.info? 125).map (·.size) = some 27 := by kernel_rfl
/-- The store of a Frame, kept closed for the walk. -/
def storeFr (x y : Value) := Instr.storeAt 125 x y
theorem storeAt_fr (x y : Value) : Instr.storeAt 125 x y = storeFr x y := rfl
/-- The load of a Frame, kept closed for the walk. -/
def loadFr (x : Value) := Instr.loadAt 125 x
theorem loadAt_fr (x : Value) : Instr.loadAt 125 x = loadFr x := rfl
theorem run_loadFr {w : World} {g : Nat} {cs : Array Value} {t : TypeId} (h : w.heap[g]? = some (.cells cs t (0, 0))) (hs : cs.size = 27) : (loadFr (.pointer (some ⟨g, 0, none⟩))).run Tryz.prog w = .ok (.agg cs) w := by
  unfold loadFr
  simp only [Instr.loadAt, Instr.sureAddr, Sem.run_bind, Sem.run_pure, Result.andThen_ok, fr16_row w g t cs (0, 0) h hs]
/-- A Frame is stored whole. -/
theorem run_storeAt_fr (w : World) (g : Nat) (b0 b1 b2 b3 b4 b5 b6 b7 b8 : Bool) (a0 a1 a2 a3 a4 a5 a6 a7 a8 a9 a10 a11 a12 a13 a14 a15 a16 a17 : Option Addr) (n0 n1 n2 n3 n4 n5 n6 n7 n8 n9 n10 n11 n12 n13 n14 n15 n16 n17 c0 c1 c2 c3 c4 c5 c6 c7 c8 c9 c10 c11 c12 c13 c14 c15 c16 c17 : Nat) (ht : w.there g 0 27) :
    (storeFr (.pointer (some ⟨g, 0, none⟩)) (.agg #[.bool b0, .slice a0 n0 c0, .slice a1 n1 c1, .bool b1, .slice a2 n2 c2, .slice a3 n3 c3, .bool b2, .slice a4 n4 c4, .slice a5 n5 c5, .bool b3, .slice a6 n6 c6, .slice a7 n7 c7, .bool b4, .slice a8 n8 c8, .slice a9 n9 c9, .bool b5, .slice a10 n10 c10, .slice a11 n11 c11, .bool b6, .slice a12 n12 c12, .slice a13 n13 c13, .bool b7, .slice a14 n14 c14, .slice a15 n15 c15, .bool b8, .slice a16 n16 c16, .slice a17 n17 c17])).run Tryz.prog w = .ok () (w.setCells g 0 [.bool b0, .slice a0 n0 c0, .slice a1 n1 c1, .bool b1, .slice a2 n2 c2, .slice a3 n3 c3, .bool b2, .slice a4 n4 c4, .slice a5 n5 c5, .bool b3, .slice a6 n6 c6, .slice a7 n7 c7, .bool b4, .slice a8 n8 c8, .slice a9 n9 c9, .bool b5, .slice a10 n10 c10, .slice a11 n11 c11, .bool b6, .slice a12 n12 c12, .slice a13 n13 c13, .bool b7, .slice a14 n14 c14, .slice a15 n15 c15, .bool b8, .slice a16 n16 c16, .slice a17 n17 c17]) :=
  run_storeAt_mid w g 0 _ _ ht fr16_size (by simp [Value.oneCell'])

theorem setCells_new (w : World) (t : TypeId) : ∀ (vs pre old : List Value), old.length = vs.length → (w.alloc (.cells (pre ++ old).toArray t)).setCells w.heap.size pre.length vs = w.alloc (.cells (pre ++ vs).toArray t)
  | [], pre, old, h => by
    obtain rfl := List.eq_nil_of_length_eq_zero h
    rfl
  | v :: r, pre, [], h => by simp at h
  | v :: r, pre, x :: old, h => by
    show ((w.alloc _).setCell ⟨w.heap.size, pre.length, none⟩ v).setCells w.heap.size (pre.length + 1) r = _
    rw [World.setCell_alloc_new]
    have e : ((pre ++ x :: old).toArray.setIfInBounds pre.length v) = ((pre ++ [v]) ++ old).toArray := by simp
    rw [e]
    have h2 := setCells_new w t r (pre ++ [v]) old (by simpa using h)
    have e2 : (pre ++ [v]).length = pre.length + 1 := by simp
    rw [e2] at h2
    rw [h2]
    simp
/-- A Frame is stored whole into a new block. -/
theorem run_storeAt_frN (w : World) (b0 b1 b2 b3 b4 b5 b6 b7 b8 : Bool) (a0 a1 a2 a3 a4 a5 a6 a7 a8 a9 a10 a11 a12 a13 a14 a15 a16 a17 : Option Addr) (n0 n1 n2 n3 n4 n5 n6 n7 n8 n9 n10 n11 n12 n13 n14 n15 n16 n17 c0 c1 c2 c3 c4 c5 c6 c7 c8 c9 c10 c11 c12 c13 c14 c15 c16 c17 : Nat) :
    (storeFr (.pointer (some ⟨w.heap.size, 0, none⟩)) (.agg #[.bool b0, .slice a0 n0 c0, .slice a1 n1 c1, .bool b1, .slice a2 n2 c2, .slice a3 n3 c3, .bool b2, .slice a4 n4 c4, .slice a5 n5 c5, .bool b3, .slice a6 n6 c6, .slice a7 n7 c7, .bool b4, .slice a8 n8 c8, .slice a9 n9 c9, .bool b5, .slice a10 n10 c10, .slice a11 n11 c11, .bool b6, .slice a12 n12 c12, .slice a13 n13 c13, .bool b7, .slice a14 n14 c14, .slice a15 n15 c15, .bool b8, .slice a16 n16 c16, .slice a17 n17 c17])).run Tryz.prog (w.alloc (.cells #[.bool false, .slice none 0 0, .slice none 0 0, .bool false, .slice none 0 0, .slice none 0 0, .bool false, .slice none 0 0, .slice none 0 0, .bool false, .slice none 0 0, .slice none 0 0, .bool false, .slice none 0 0, .slice none 0 0, .bool false, .slice none 0 0, .slice none 0 0, .bool false, .slice none 0 0, .slice none 0 0, .bool false, .slice none 0 0, .slice none 0 0, .bool false, .slice none 0 0, .slice none 0 0] 125 (0, 0))) = .ok () (w.alloc (.cells #[.bool b0, .slice a0 n0 c0, .slice a1 n1 c1, .bool b1, .slice a2 n2 c2, .slice a3 n3 c3, .bool b2, .slice a4 n4 c4, .slice a5 n5 c5, .bool b3, .slice a6 n6 c6, .slice a7 n7 c7, .bool b4, .slice a8 n8 c8, .slice a9 n9 c9, .bool b5, .slice a10 n10 c10, .slice a11 n11 c11, .bool b6, .slice a12 n12 c12, .slice a13 n13 c13, .bool b7, .slice a14 n14 c14, .slice a15 n15 c15, .bool b8, .slice a16 n16 c16, .slice a17 n17 c17] 125 (0, 0))) := by
  have h := run_storeAt_fr (w.alloc (.cells #[.bool false, .slice none 0 0, .slice none 0 0, .bool false, .slice none 0 0, .slice none 0 0, .bool false, .slice none 0 0, .slice none 0 0, .bool false, .slice none 0 0, .slice none 0 0, .bool false, .slice none 0 0, .slice none 0 0, .bool false, .slice none 0 0, .slice none 0 0, .bool false, .slice none 0 0, .slice none 0 0, .bool false, .slice none 0 0, .slice none 0 0, .bool false, .slice none 0 0, .slice none 0 0] 125 (0, 0))) w.heap.size b0 b1 b2 b3 b4 b5 b6 b7 b8 a0 a1 a2 a3 a4 a5 a6 a7 a8 a9 a10 a11 a12 a13 a14 a15 a16 a17 n0 n1 n2 n3 n4 n5 n6 n7 n8 n9 n10 n11 n12 n13 n14 n15 n16 n17 c0 c1 c2 c3 c4 c5 c6 c7 c8 c9 c10 c11 c12 c13 c14 c15 c16 c17 (there_row (heap_alloc_new _ _))
  have e := setCells_new w 125 [.bool b0, .slice a0 n0 c0, .slice a1 n1 c1, .bool b1, .slice a2 n2 c2, .slice a3 n3 c3, .bool b2, .slice a4 n4 c4, .slice a5 n5 c5, .bool b3, .slice a6 n6 c6, .slice a7 n7 c7, .bool b4, .slice a8 n8 c8, .slice a9 n9 c9, .bool b5, .slice a10 n10 c10, .slice a11 n11 c11, .bool b6, .slice a12 n12 c12, .slice a13 n13 c13, .bool b7, .slice a14 n14 c14, .slice a15 n15 c15, .bool b8, .slice a16 n16 c16, .slice a17 n17 c17] [] [.bool false, .slice none 0 0, .slice none 0 0, .bool false, .slice none 0 0, .slice none 0 0, .bool false, .slice none 0 0, .slice none 0 0, .bool false, .slice none 0 0, .slice none 0 0, .bool false, .slice none 0 0, .slice none 0 0, .bool false, .slice none 0 0, .slice none 0 0, .bool false, .slice none 0 0, .slice none 0 0, .bool false, .slice none 0 0, .slice none 0 0, .bool false, .slice none 0 0, .slice none 0 0] rfl
  exact h.trans (congrArg (Result.ok ()) e)

attribute [local go_sem ↓ high] storeAt_fr
attribute [local go_sem high] run_storeAt_fr


set_option maxRecDepth 100000 in
set_option maxHeartbeats 4000000 in
theorem r16_FrameOf_ok (a b : ByteArray) (w : World) (ha : a.size ≤ 100) (hb : b.size ≤ 100) (hv : (rvB a && rvB b) = true) (ho : (outQ (rvX a) 1 || outQ (rvX b) (1 / 2)) = false) :
    Calls Tryz.prog 77 #[.agg #[.string a, .string b]] w fun e w' => ∃ fA fS fU : VS, e = .returned (.tuple #[.agg #[.bool (sgB (axA (rvX a) (rvX b)).x.num), .slice fA.x.p.A fA.x.p.n fA.x.p.c, .slice fA.x.d.A fA.x.d.n fA.x.d.c, .bool (sgB (axA (rvX a) (rvX b)).y.num), .slice fA.y.p.A fA.y.p.n fA.y.p.c, .slice fA.y.d.A fA.y.d.n fA.y.d.c, .bool (sgB (axA (rvX a) (rvX b)).z.num), .slice fA.z.p.A fA.z.p.n fA.z.p.c, .slice fA.z.d.A fA.z.d.n fA.z.d.c, .bool (sgB (axS (rvX a)).x.num), .slice fS.x.p.A fS.x.p.n fS.x.p.c, .slice fS.x.d.A fS.x.d.n fS.x.d.c, .bool (sgB (axS (rvX a)).y.num), .slice fS.y.p.A fS.y.p.n fS.y.p.c, .slice fS.y.d.A fS.y.d.n fS.y.d.c, .bool (sgB (axS (rvX a)).z.num), .slice fS.z.p.A fS.z.p.n fS.z.p.c, .slice fS.z.d.A fS.z.d.n fS.z.d.c, .bool (sgB (axU (rvX a) (rvX b)).x.num), .slice fU.x.p.A fU.x.p.n fU.x.p.c, .slice fU.x.d.A fU.x.d.n fU.x.d.c, .bool (sgB (axU (rvX a) (rvX b)).y.num), .slice fU.y.p.A fU.y.p.n fU.y.p.c, .slice fU.y.d.A fU.y.d.n fU.y.d.c, .bool (sgB (axU (rvX a) (rvX b)).z.num), .slice fU.z.p.A fU.z.p.n fU.z.p.c, .slice fU.z.d.A fU.z.d.n fU.z.d.c], .int .i64 0]) ∧ RV w' fA (axA (rvX a) (rvX b)) ∧ RV w' fS (axS (rvX a)) ∧ RV w' fU (axU (rvX a) (rvX b)) ∧ Below w.heap.size w w' := by
  have H0 := Lib.hid (fun W => r3_From a W (Nat.le_trans ha (by decide)))
  have H1 := Lib.hid (fun W => r3_From b W (Nat.le_trans hb (by decide)))
  unfold FrP at H0 H1
  have z1 : Sz 101 (rvX a) := sz_rvX ha (by decide)
  have z2 : Sz 101 (rvX b) := sz_rvX hb (by decide)
  have h2 := fun W => r16_N ⟨#[49]⟩ W (by decide)
  have h4 := fun W => r16_N ⟨#[49, 47, 50]⟩ W (by decide)
  rw [rvX_1] at h2
  rw [rvX_half] at h4
  have H2 := Lib.hid h2
  have H4 := Lib.hid h4
  have H3 := Lib.hid (fun W p d s t (k0 : RQ W p d (rvX a)) (k1 : RQ W s t 1) => r16_outside (rvX a) 1 p d s t W k0 k1 (z1.mono (by decide)) (sz_one.mono (by decide)))
  have H5 := Lib.hid (fun W p d s t (k0 : RQ W p d (rvX b)) (k1 : RQ W s t (1 / 2)) => r16_outside (rvX b) (1 / 2) p d s t W k0 k1 (z2.mono (by decide)) (sz_half.mono (by decide)))
  rw [Bool.and_eq_true] at hv
  rw [hv.1] at H0
  rw [hv.2] at H1
  have H6 := Lib.hid (fun W p d (k0 : RQ W p d (rvX a)) => r16_Round (rvX a) p d W k0 (z1.mono (by decide)))
  have H7 := Lib.hid (fun W p d (k0 : RQ W p d (rvX b)) => r16_Round (rvX b) p d W k0 (z2.mono (by decide)))
  have q1 := sz_cosQ z1
  have q2 := sz_sinQ z1
  have q3 := sz_cosQ z2
  have q4 := sz_sinQ z2
  have hz := fun W => r16_N ⟨#[48]⟩ W (by decide)
  rw [rvX_0] at hz
  have HZ := Lib.hid hz
  have M0 := Lib.hid (fun W p d s t (k0 : RQ W p d (sinQ (rvX a))) (k1 : RQ W s t (sinQ (rvX b))) => r3_Mul _ _ p d s t W k0 k1 (q2.mono (by decide)) (q4.mono (by decide)))
  have N1 := Lib.hid (fun W p d (k0 : RQ W p d (sinQ (rvX a) * sinQ (rvX b))) => r16_Neg _ p d W k0 ((sz_mul q2 q4).mono (by decide)))
  have M2 := Lib.hid (fun W p d s t (k0 : RQ W p d (cosQ (rvX a))) (k1 : RQ W s t (sinQ (rvX b))) => r3_Mul _ _ p d s t W k0 k1 (q1.mono (by decide)) (q4.mono (by decide)))
  have N4 := Lib.hid (fun W p d (k0 : RQ W p d (sinQ (rvX b))) => r16_Neg _ p d W k0 (q4.mono (by decide)))
  have M5 := Lib.hid (fun W p d s t (k0 : RQ W p d (sinQ (rvX a))) (k1 : RQ W s t (cosQ (rvX b))) => r3_Mul _ _ p d s t W k0 k1 (q2.mono (by decide)) (q3.mono (by decide)))
  have N6 := Lib.hid (fun W p d (k0 : RQ W p d (sinQ (rvX a) * cosQ (rvX b))) => r16_Neg _ p d W k0 ((sz_mul q2 q3).mono (by decide)))
  have M7 := Lib.hid (fun W p d s t (k0 : RQ W p d (cosQ (rvX a))) (k1 : RQ W s t (cosQ (rvX b))) => r3_Mul _ _ p d s t W k0 k1 (q1.mono (by decide)) (q3.mono (by decide)))
  unfold axA axS axU
  simp only
  clear ha hb z1 z2 h2 h4 hv q1 q2 q3 q4 hz
  generalize rvX a = x at *
  generalize rvX b = y at *
  rw [Bool.or_eq_false_iff] at ho
  rw [ho.1] at H3
  rw [ho.2] at H5
  clear ho
  generalize sinQ x * sinQ y = e1 at *
  generalize cosQ x * sinQ y = e2 at *
  generalize sinQ x * cosQ y = e3 at *
  generalize cosQ x * cosQ y = e4 at *
  generalize cosQ x = cp at *
  generalize sinQ x = sp at *
  generalize cosQ y = cq at *
  generalize sinQ y = sq at *
  generalize -e1 = m1 at *
  generalize -e3 = m3 at *
  generalize -sq = m4 at *
  generalize (1 : Rat) / 2 = hf at *
  generalize (1 : Rat) = on at *
  generalize sgB hf.num = hf0_ at *
  generalize sgB on.num = on0_ at *
  generalize sgB x.num = x0_ at *
  generalize sgB y.num = y0_ at *
  generalize (0 : Rat) = zr at *
  generalize sgB e1.num = e10_ at *
  generalize sgB e2.num = e20_ at *
  generalize sgB e3.num = e30_ at *
  generalize sgB e4.num = e40_ at *
  generalize sgB cp.num = cp0_ at *
  generalize sgB sp.num = sp0_ at *
  generalize sgB cq.num = cq0_ at *
  generalize sgB sq.num = sq0_ at *
  generalize sgB m1.num = m10_ at *
  generalize sgB m3.num = m30_ at *
  generalize sgB m4.num = m40_ at *
  generalize sgB zr.num = zr0_ at *
  go_enter Tryz.func77, Tryz.ntmps77
  go_upto_region 1 with fail
  generalize hW : (World.alloc w _).alloc _ = W
  obtain ⟨hB, hsz, R1, R2⟩ := A2 hW
  have R1 := Lib.hid R1
  have R2 := Lib.hid R2
  clear hW hsz
  obtain ⟨c0, c1, f0, f1⟩ := row2 R1.out
  go_wp2_with fail
  clear c0 c1 f0 f1
  refine (H0.out _).mono ?_
  rintro e w1 ⟨p, d, rfl, h0, hb⟩
  replace hB := bstep hB hb
  have R1 := Lib.hid (keep hb R1.out)
  have R2 := Lib.hid (keep hb R2.out)
  have K0 := Lib.hid h0
  clear h0
  clear hb
  go_upto_region 2 with fail
  generalize hW : World.alloc _ _ = V
  obtain ⟨hb, hsz, R4⟩ := A1 hW
  replace hB := bstep hB hb
  have R1 := Lib.hid (keep hb R1.out)
  have R2 := Lib.hid (keep hb R2.out)
  have K0 := Lib.hid (K0.out.below hb)
  clear hb
  have R4 := Lib.hid R4
  clear hW hsz
  obtain ⟨c0, c1, f0, f1⟩ := row2 R1.out
  go_wp2_with fail
  clear c0 c1 f0 f1
  refine (H1.out _).mono ?_
  rintro e w2 ⟨s, t, rfl, h1, hb⟩
  replace hB := bstep hB hb
  have R2 := Lib.hid (keep hb R2.out)
  have R4 := Lib.hid (keep hb R4.out)
  have K0 := Lib.hid (K0.out.below hb)
  have K1 := Lib.hid h1
  clear h1
  clear hb
  go_upto_region 3 with fail
  generalize hW : World.alloc _ _ = V2
  obtain ⟨hb, hsz, R6⟩ := A1 hW
  replace hB := bstep hB hb
  have R2 := Lib.hid (keep hb R2.out)
  have R4 := Lib.hid (keep hb R4.out)
  have K0 := Lib.hid (K0.out.below hb)
  have K1 := Lib.hid (K1.out.below hb)
  clear hb
  have R6 := Lib.hid R6
  clear hW hsz
  go_wp2_with fail
  have LR4 := fun (w' : World) (h : Ap V2.heap.size V2.heap.size V2 w') => rowc3 (h.rowV R4.out)
  have LR6 := fun (w' : World) (h : Ap V2.heap.size V2.heap.size V2 w') => rowc3 (h.rowV R6.out)
  have hvr := Below.refl V2.heap.size V2
  have hv0 := hvr.drew
  first
  | go_region_held3 (fun w' => Ap V2.heap.size V2.heap.size V2 w') (first | (with_reducible assumption) | (with_reducible exact Ap.refl _ _ _) | ((repeat (first | with_reducible assumption | with_reducible exact Ap.refl _ _ _ | with_reducible refine Ap.drew ?_ | with_reducible refine Ap.alloc ?_ | with_reducible refine Ap.set1 ?_ | with_reducible refine Ap.set2 ?_ | with_reducible refine Ap.setN (by first | with_reducible assumption | with_reducible exact Nat.le_refl _ | with_reducible exact Nat.le_add_right _ _ | with_reducible exact Nat.le_trans (by assumption) (Nat.le_add_right _ _)) ?_)); done))
      (first
        | (go_at_call 114; (with_reducible refine (H2.out _ ).mono ?_); rintro e wq0 ⟨p_0, d_0, rfl, hk_0, hb⟩; have hv1 : Below V2.heap.size V2 wq0 := (by first | with_reducible exact bstep (hv0) hb); have hs1 := Ap.of_below (g := V2.heap.size) (h := V2.heap.size) hv1; have sz1 := hv1.size; have K0 := Lib.hid (by first | with_reducible exact K0.out.below hb | with_reducible exact (K0.out.below (Below.drew (Below.refl _ _))).below hb); have K1 := Lib.hid (by first | with_reducible exact K1.out.below hb | with_reducible exact (K1.out.below (Below.drew (Below.refl _ _))).below hb); have L0 := Lib.hid hk_0; clear hk_0; clear hb)
        | (go_at_call 113; (with_reducible refine (H3.out _  p d p_0 d_0 (by first | with_reducible exact K0.out | with_reducible exact (K0.out.below (Below.drew (Below.refl _ _)))) (by first | with_reducible exact L0.out | with_reducible exact (L0.out.below (Below.drew (Below.refl _ _))))).mono ?_); rintro e wq1 ⟨rfl, hb⟩; have hv2 : Below V2.heap.size V2 wq1 := (by first | with_reducible exact bstep (hv1) hb); have hs2 := Ap.of_below (g := V2.heap.size) (h := V2.heap.size) hv2; have sz2 := hv2.size; have K0 := Lib.hid (by first | with_reducible exact K0.out.below hb | with_reducible exact (K0.out.below (Below.drew (Below.refl _ _))).below hb); have K1 := Lib.hid (by first | with_reducible exact K1.out.below hb | with_reducible exact (K1.out.below (Below.drew (Below.refl _ _))).below hb); have L0 := Lib.hid (by first | with_reducible exact L0.out.below hb | with_reducible exact (L0.out.below (Below.drew (Below.refl _ _))).below hb); clear hb)
        | (go_at_call 114; (with_reducible refine (H4.out _ ).mono ?_); rintro e wq2 ⟨p_2, d_2, rfl, hk_2, hb⟩; have hv3 : Below V2.heap.size V2 wq2 := (by first | with_reducible exact bstep (hv2) hb); have hs3 := Ap.of_below (g := V2.heap.size) (h := V2.heap.size) hv3; have sz3 := hv3.size; have K0 := Lib.hid (by first | with_reducible exact K0.out.below hb | with_reducible exact (K0.out.below (Below.drew (Below.refl _ _))).below hb); have K1 := Lib.hid (by first | with_reducible exact K1.out.below hb | with_reducible exact (K1.out.below (Below.drew (Below.refl _ _))).below hb); have L0 := Lib.hid (by first | with_reducible exact L0.out.below hb | with_reducible exact (L0.out.below (Below.drew (Below.refl _ _))).below hb); have L2 := Lib.hid hk_2; clear hk_2; clear hb)
        | (go_at_call 113; (with_reducible refine (H5.out _  s t p_2 d_2 (by first | with_reducible exact K1.out | with_reducible exact (K1.out.below (Below.drew (Below.refl _ _)))) (by first | with_reducible exact L2.out | with_reducible exact (L2.out.below (Below.drew (Below.refl _ _))))).mono ?_); rintro e wq3 ⟨rfl, hb⟩; have hv4 : Below V2.heap.size V2 wq3 := (by first | with_reducible exact bstep (hv3) hb); have hs4 := Ap.of_below (g := V2.heap.size) (h := V2.heap.size) hv4; have sz4 := hv4.size; have K0 := Lib.hid (by first | with_reducible exact K0.out.below hb | with_reducible exact (K0.out.below (Below.drew (Below.refl _ _))).below hb); have K1 := Lib.hid (by first | with_reducible exact K1.out.below hb | with_reducible exact (K1.out.below (Below.drew (Below.refl _ _))).below hb); have L0 := Lib.hid (by first | with_reducible exact L0.out.below hb | with_reducible exact (L0.out.below (Below.drew (Below.refl _ _))).below hb); have L2 := Lib.hid (by first | with_reducible exact L2.out.below hb | with_reducible exact (L2.out.below (Below.drew (Below.refl _ _))).below hb); clear hb))
  | fail
  all_goals
    have R2 := Lib.hid (keep hv4 R2.out)
    have R6 := Lib.hid (keep hv4 R6.out)
    have R4 := Lib.hid (keep hv4 R4.out)
    replace hB := bstep hB hv4
    obtain ⟨x0, x1, x2⟩ := rowc3 R4.out
    go_wp2_with fail
    clear x0 x1 x2
    refine (H6.out _ _ _ K0.out).mono ?_
    rintro e w6 ⟨c1, c2, s1, s2, rfl, kc, ks, hb⟩
    replace hB := bstep hB hb
    have KC := Lib.hid kc
    have KS := Lib.hid ks
    have K1 := Lib.hid (K1.out.below hb)
    have R2 := Lib.hid (keep hb R2.out)
    have R6 := Lib.hid (keep hb R6.out)
    clear hb kc ks
    have lr := lt_of_row R2.out
    have M8 := Lib.hid (show w6.heap.size ≠ w.heap.size + 1 by omega)
    have M9 := Lib.hid (show w6.heap.size + 1 ≠ w.heap.size + 1 by omega)
    clear lr
    go_upto_region 8 with fail
    generalize hW : (World.alloc _ _).alloc _ = V6
    obtain ⟨hb, hsz, R8, R9⟩ := A2 hW
    replace hB := bstep hB hb
    have R2 := Lib.hid (keep hb R2.out)
    have R6 := Lib.hid (keep hb R6.out)
    have K1 := Lib.hid (K1.out.below hb)
    have KC := Lib.hid (KC.out.below hb)
    have KS := Lib.hid (KS.out.below hb)
    clear hb
    have R8 := Lib.hid R8
    have R9 := Lib.hid R9
    clear hW hsz
    obtain ⟨R6c0, R6c1, R6c2, R6f0, R6f1, R6f2⟩ := row3 R6.out
    go_wp2_with fail
    clear R6c0 R6c1 R6c2 R6f0 R6f1 R6f2
    refine (H7.out _ _ _ K1.out).mono ?_
    rintro e w7 ⟨d1, d2, t1, t2, rfl, kd, kt, hb⟩
    replace hB := bstep hB hb
    have KD := Lib.hid kd
    have KT := Lib.hid kt
    have KC := Lib.hid (KC.out.below hb)
    have KS := Lib.hid (KS.out.below hb)
    have R2 := Lib.hid (keep hb R2.out)
    have R8 := Lib.hid (keep hb R8.out)
    have R9 := Lib.hid (keep hb R9.out)
    clear hb kd kt
    have lr := lt_of_row R2.out
    have M10 := Lib.hid (show w7.heap.size ≠ w.heap.size + 1 by omega)
    have M11 := Lib.hid (show w7.heap.size + 1 ≠ w.heap.size + 1 by omega)
    clear lr
    go_upto_region 9 with fail
    generalize hW : (World.alloc _ _).alloc _ = V8
    obtain ⟨hb, hsz, R10, R11⟩ := A2 hW
    replace hB := bstep hB hb
    have R2 := Lib.hid (keep hb R2.out)
    have R8 := Lib.hid (keep hb R8.out)
    have R9 := Lib.hid (keep hb R9.out)
    have KC := Lib.hid (KC.out.below hb)
    have KS := Lib.hid (KS.out.below hb)
    have KD := Lib.hid (KD.out.below hb)
    have KT := Lib.hid (KT.out.below hb)
    clear hb
    have R10 := Lib.hid R10
    have R11 := Lib.hid R11
    clear hW hsz
    clear hv0 hv1 hv2 hv3 hv4 hs1 hs2 hs3 hs4 sz1 sz2 sz3 sz4 hvr
    have LR8 := fun (w' : World) (h : Ap (w.heap.size + 1) (w.heap.size + 1) V8 w') => rowc3 (h.row R8.out M8.out M8.out)
    have LR9 := fun (w' : World) (h : Ap (w.heap.size + 1) (w.heap.size + 1) V8 w') => rowc3 (h.row R9.out M9.out M9.out)
    have LR10 := fun (w' : World) (h : Ap (w.heap.size + 1) (w.heap.size + 1) V8 w') => rowc3 (h.row R10.out M10.out M10.out)
    have LR11 := fun (w' : World) (h : Ap (w.heap.size + 1) (w.heap.size + 1) V8 w') => rowc3 (h.row R11.out M11.out M11.out)
    have hvr := Below.refl V8.heap.size V8
    have hv0 := hvr.drew
    first
    | go_region_held3 (fun w' => Ap (w.heap.size + 1) (w.heap.size + 1) V8 w') (first | (with_reducible assumption) | (with_reducible exact Ap.refl _ _ _) | ((repeat (first | with_reducible assumption | with_reducible exact Ap.refl _ _ _ | with_reducible refine Ap.drew ?_ | with_reducible refine Ap.alloc ?_ | with_reducible refine Ap.setG ?_ | with_reducible refine Ap.set2 ?_ | with_reducible refine Ap.setN (by first | with_reducible assumption | with_reducible exact Nat.le_refl _ | with_reducible exact Nat.le_add_right _ _ | with_reducible exact Nat.le_trans (by assumption) (Nat.le_add_right _ _)) ?_)); done))
        (first
          | (go_at_call 69; (with_reducible refine (M0.out _  s1 s2 t1 t2 (by first | with_reducible exact KS.out | with_reducible exact (KS.out.below (Below.drew (Below.refl _ _)))) (by first | with_reducible exact KT.out | with_reducible exact (KT.out.below (Below.drew (Below.refl _ _))))).mono ?_); rintro e wq0 ⟨p_0, d_0, rfl, hk_0, hb⟩; have hv1 : Below V8.heap.size V8 wq0 := (by first | with_reducible exact bstep (hv0) hb); have hs1 := Ap.of_below (g := w.heap.size + 1) (h := w.heap.size + 1) hv1; have sz1 := hv1.size; have KC := Lib.hid (by first | with_reducible exact KC.out.below hb | with_reducible exact (KC.out.below (Below.drew (Below.refl _ _))).below hb); have KS := Lib.hid (by first | with_reducible exact KS.out.below hb | with_reducible exact (KS.out.below (Below.drew (Below.refl _ _))).below hb); have KD := Lib.hid (by first | with_reducible exact KD.out.below hb | with_reducible exact (KD.out.below (Below.drew (Below.refl _ _))).below hb); have KT := Lib.hid (by first | with_reducible exact KT.out.below hb | with_reducible exact (KT.out.below (Below.drew (Below.refl _ _))).below hb); have L0 := Lib.hid hk_0; clear hk_0; clear hb)
          | (go_at_call 116; (with_reducible refine (N1.out _  p_0 d_0 (by first | with_reducible exact L0.out | with_reducible exact (L0.out.below (Below.drew (Below.refl _ _))))).mono ?_); rintro e wq1 ⟨p_1, d_1, rfl, hk_1, hb⟩; have hv2 : Below V8.heap.size V8 wq1 := (by first | with_reducible exact bstep (hv1) hb); have hs2 := Ap.of_below (g := w.heap.size + 1) (h := w.heap.size + 1) hv2; have sz2 := hv2.size; have KC := Lib.hid (by first | with_reducible exact KC.out.below hb | with_reducible exact (KC.out.below (Below.drew (Below.refl _ _))).below hb); have KS := Lib.hid (by first | with_reducible exact KS.out.below hb | with_reducible exact (KS.out.below (Below.drew (Below.refl _ _))).below hb); have KD := Lib.hid (by first | with_reducible exact KD.out.below hb | with_reducible exact (KD.out.below (Below.drew (Below.refl _ _))).below hb); have KT := Lib.hid (by first | with_reducible exact KT.out.below hb | with_reducible exact (KT.out.below (Below.drew (Below.refl _ _))).below hb); have L0 := Lib.hid (by first | with_reducible exact L0.out.below hb | with_reducible exact (L0.out.below (Below.drew (Below.refl _ _))).below hb); have L1 := Lib.hid hk_1; clear hk_1; clear hb)
          | (go_at_call 69; (with_reducible refine (M2.out _  c1 c2 t1 t2 (by first | with_reducible exact KC.out | with_reducible exact (KC.out.below (Below.drew (Below.refl _ _)))) (by first | with_reducible exact KT.out | with_reducible exact (KT.out.below (Below.drew (Below.refl _ _))))).mono ?_); rintro e wq2 ⟨p_2, d_2, rfl, hk_2, hb⟩; have hv3 : Below V8.heap.size V8 wq2 := (by first | with_reducible exact bstep (hv2) hb); have hs3 := Ap.of_below (g := w.heap.size + 1) (h := w.heap.size + 1) hv3; have sz3 := hv3.size; have KC := Lib.hid (by first | with_reducible exact KC.out.below hb | with_reducible exact (KC.out.below (Below.drew (Below.refl _ _))).below hb); have KS := Lib.hid (by first | with_reducible exact KS.out.below hb | with_reducible exact (KS.out.below (Below.drew (Below.refl _ _))).below hb); have KD := Lib.hid (by first | with_reducible exact KD.out.below hb | with_reducible exact (KD.out.below (Below.drew (Below.refl _ _))).below hb); have KT := Lib.hid (by first | with_reducible exact KT.out.below hb | with_reducible exact (KT.out.below (Below.drew (Below.refl _ _))).below hb); have L0 := Lib.hid (by first | with_reducible exact L0.out.below hb | with_reducible exact (L0.out.below (Below.drew (Below.refl _ _))).below hb); have L1 := Lib.hid (by first | with_reducible exact L1.out.below hb | with_reducible exact (L1.out.below (Below.drew (Below.refl _ _))).below hb); have L2 := Lib.hid hk_2; clear hk_2; clear hb)
          | (go_at_call 114; (with_reducible refine (HZ.out _ ).mono ?_); rintro e wq3 ⟨p_3, d_3, rfl, hk_3, hb⟩; have hv4 : Below V8.heap.size V8 wq3 := (by first | with_reducible exact bstep (hv3) hb); have hs4 := Ap.of_below (g := w.heap.size + 1) (h := w.heap.size + 1) hv4; have sz4 := hv4.size; have KC := Lib.hid (by first | with_reducible exact KC.out.below hb | with_reducible exact (KC.out.below (Below.drew (Below.refl _ _))).below hb); have KS := Lib.hid (by first | with_reducible exact KS.out.below hb | with_reducible exact (KS.out.below (Below.drew (Below.refl _ _))).below hb); have KD := Lib.hid (by first | with_reducible exact KD.out.below hb | with_reducible exact (KD.out.below (Below.drew (Below.refl _ _))).below hb); have KT := Lib.hid (by first | with_reducible exact KT.out.below hb | with_reducible exact (KT.out.below (Below.drew (Below.refl _ _))).below hb); have L0 := Lib.hid (by first | with_reducible exact L0.out.below hb | with_reducible exact (L0.out.below (Below.drew (Below.refl _ _))).below hb); have L1 := Lib.hid (by first | with_reducible exact L1.out.below hb | with_reducible exact (L1.out.below (Below.drew (Below.refl _ _))).below hb); have L2 := Lib.hid (by first | with_reducible exact L2.out.below hb | with_reducible exact (L2.out.below (Below.drew (Below.refl _ _))).below hb); have L3 := Lib.hid hk_3; clear hk_3; clear hb)
          | (go_at_call 116; (with_reducible refine (N4.out _  t1 t2 (by first | with_reducible exact KT.out | with_reducible exact (KT.out.below (Below.drew (Below.refl _ _))))).mono ?_); rintro e wq4 ⟨p_4, d_4, rfl, hk_4, hb⟩; have hv5 : Below V8.heap.size V8 wq4 := (by first | with_reducible exact bstep (hv4) hb); have hs5 := Ap.of_below (g := w.heap.size + 1) (h := w.heap.size + 1) hv5; have sz5 := hv5.size; have KC := Lib.hid (by first | with_reducible exact KC.out.below hb | with_reducible exact (KC.out.below (Below.drew (Below.refl _ _))).below hb); have KS := Lib.hid (by first | with_reducible exact KS.out.below hb | with_reducible exact (KS.out.below (Below.drew (Below.refl _ _))).below hb); have KD := Lib.hid (by first | with_reducible exact KD.out.below hb | with_reducible exact (KD.out.below (Below.drew (Below.refl _ _))).below hb); have KT := Lib.hid (by first | with_reducible exact KT.out.below hb | with_reducible exact (KT.out.below (Below.drew (Below.refl _ _))).below hb); have L0 := Lib.hid (by first | with_reducible exact L0.out.below hb | with_reducible exact (L0.out.below (Below.drew (Below.refl _ _))).below hb); have L1 := Lib.hid (by first | with_reducible exact L1.out.below hb | with_reducible exact (L1.out.below (Below.drew (Below.refl _ _))).below hb); have L2 := Lib.hid (by first | with_reducible exact L2.out.below hb | with_reducible exact (L2.out.below (Below.drew (Below.refl _ _))).below hb); have L3 := Lib.hid (by first | with_reducible exact L3.out.below hb | with_reducible exact (L3.out.below (Below.drew (Below.refl _ _))).below hb); have L4 := Lib.hid hk_4; clear hk_4; clear hb)
          | (go_at_call 69; (with_reducible refine (M5.out _  s1 s2 d1 d2 (by first | with_reducible exact KS.out | with_reducible exact (KS.out.below (Below.drew (Below.refl _ _)))) (by first | with_reducible exact KD.out | with_reducible exact (KD.out.below (Below.drew (Below.refl _ _))))).mono ?_); rintro e wq5 ⟨p_5, d_5, rfl, hk_5, hb⟩; have hv6 : Below V8.heap.size V8 wq5 := (by first | with_reducible exact bstep (hv5) hb); have hs6 := Ap.of_below (g := w.heap.size + 1) (h := w.heap.size + 1) hv6; have sz6 := hv6.size; have KC := Lib.hid (by first | with_reducible exact KC.out.below hb | with_reducible exact (KC.out.below (Below.drew (Below.refl _ _))).below hb); have KS := Lib.hid (by first | with_reducible exact KS.out.below hb | with_reducible exact (KS.out.below (Below.drew (Below.refl _ _))).below hb); have KD := Lib.hid (by first | with_reducible exact KD.out.below hb | with_reducible exact (KD.out.below (Below.drew (Below.refl _ _))).below hb); have KT := Lib.hid (by first | with_reducible exact KT.out.below hb | with_reducible exact (KT.out.below (Below.drew (Below.refl _ _))).below hb); have L0 := Lib.hid (by first | with_reducible exact L0.out.below hb | with_reducible exact (L0.out.below (Below.drew (Below.refl _ _))).below hb); have L1 := Lib.hid (by first | with_reducible exact L1.out.below hb | with_reducible exact (L1.out.below (Below.drew (Below.refl _ _))).below hb); have L2 := Lib.hid (by first | with_reducible exact L2.out.below hb | with_reducible exact (L2.out.below (Below.drew (Below.refl _ _))).below hb); have L3 := Lib.hid (by first | with_reducible exact L3.out.below hb | with_reducible exact (L3.out.below (Below.drew (Below.refl _ _))).below hb); have L4 := Lib.hid (by first | with_reducible exact L4.out.below hb | with_reducible exact (L4.out.below (Below.drew (Below.refl _ _))).below hb); have L5 := Lib.hid hk_5; clear hk_5; clear hb)
          | (go_at_call 116; (with_reducible refine (N6.out _  p_5 d_5 (by first | with_reducible exact L5.out | with_reducible exact (L5.out.below (Below.drew (Below.refl _ _))))).mono ?_); rintro e wq6 ⟨p_6, d_6, rfl, hk_6, hb⟩; have hv7 : Below V8.heap.size V8 wq6 := (by first | with_reducible exact bstep (hv6) hb); have hs7 := Ap.of_below (g := w.heap.size + 1) (h := w.heap.size + 1) hv7; have sz7 := hv7.size; have KC := Lib.hid (by first | with_reducible exact KC.out.below hb | with_reducible exact (KC.out.below (Below.drew (Below.refl _ _))).below hb); have KS := Lib.hid (by first | with_reducible exact KS.out.below hb | with_reducible exact (KS.out.below (Below.drew (Below.refl _ _))).below hb); have KD := Lib.hid (by first | with_reducible exact KD.out.below hb | with_reducible exact (KD.out.below (Below.drew (Below.refl _ _))).below hb); have KT := Lib.hid (by first | with_reducible exact KT.out.below hb | with_reducible exact (KT.out.below (Below.drew (Below.refl _ _))).below hb); have L0 := Lib.hid (by first | with_reducible exact L0.out.below hb | with_reducible exact (L0.out.below (Below.drew (Below.refl _ _))).below hb); have L1 := Lib.hid (by first | with_reducible exact L1.out.below hb | with_reducible exact (L1.out.below (Below.drew (Below.refl _ _))).below hb); have L2 := Lib.hid (by first | with_reducible exact L2.out.below hb | with_reducible exact (L2.out.below (Below.drew (Below.refl _ _))).below hb); have L3 := Lib.hid (by first | with_reducible exact L3.out.below hb | with_reducible exact (L3.out.below (Below.drew (Below.refl _ _))).below hb); have L4 := Lib.hid (by first | with_reducible exact L4.out.below hb | with_reducible exact (L4.out.below (Below.drew (Below.refl _ _))).below hb); have L5 := Lib.hid (by first | with_reducible exact L5.out.below hb | with_reducible exact (L5.out.below (Below.drew (Below.refl _ _))).below hb); have L6 := Lib.hid hk_6; clear hk_6; clear hb)
          | (go_at_call 69; (with_reducible refine (M7.out _  c1 c2 d1 d2 (by first | with_reducible exact KC.out | with_reducible exact (KC.out.below (Below.drew (Below.refl _ _)))) (by first | with_reducible exact KD.out | with_reducible exact (KD.out.below (Below.drew (Below.refl _ _))))).mono ?_); rintro e wq7 ⟨p_7, d_7, rfl, hk_7, hb⟩; have hv8 : Below V8.heap.size V8 wq7 := (by first | with_reducible exact bstep (hv7) hb); have hs8 := Ap.of_below (g := w.heap.size + 1) (h := w.heap.size + 1) hv8; have sz8 := hv8.size; have KC := Lib.hid (by first | with_reducible exact KC.out.below hb | with_reducible exact (KC.out.below (Below.drew (Below.refl _ _))).below hb); have KS := Lib.hid (by first | with_reducible exact KS.out.below hb | with_reducible exact (KS.out.below (Below.drew (Below.refl _ _))).below hb); have KD := Lib.hid (by first | with_reducible exact KD.out.below hb | with_reducible exact (KD.out.below (Below.drew (Below.refl _ _))).below hb); have KT := Lib.hid (by first | with_reducible exact KT.out.below hb | with_reducible exact (KT.out.below (Below.drew (Below.refl _ _))).below hb); have L0 := Lib.hid (by first | with_reducible exact L0.out.below hb | with_reducible exact (L0.out.below (Below.drew (Below.refl _ _))).below hb); have L1 := Lib.hid (by first | with_reducible exact L1.out.below hb | with_reducible exact (L1.out.below (Below.drew (Below.refl _ _))).below hb); have L2 := Lib.hid (by first | with_reducible exact L2.out.below hb | with_reducible exact (L2.out.below (Below.drew (Below.refl _ _))).below hb); have L3 := Lib.hid (by first | with_reducible exact L3.out.below hb | with_reducible exact (L3.out.below (Below.drew (Below.refl _ _))).below hb); have L4 := Lib.hid (by first | with_reducible exact L4.out.below hb | with_reducible exact (L4.out.below (Below.drew (Below.refl _ _))).below hb); have L5 := Lib.hid (by first | with_reducible exact L5.out.below hb | with_reducible exact (L5.out.below (Below.drew (Below.refl _ _))).below hb); have L6 := Lib.hid (by first | with_reducible exact L6.out.below hb | with_reducible exact (L6.out.below (Below.drew (Below.refl _ _))).below hb); have RoX := keep hv8 R2.out; have HT : World.there wq7 (w.heap.size + 1) 0 27 := there_row RoX; have L7 := Lib.hid hk_7; clear hk_7; clear hb))
    | fail
    all_goals
      have E2 := setCells_row RoX ([.bool cq0_, .slice d1.A d1.n d1.c, .slice d2.A d2.n d2.c, .bool m10_, .slice p_1.A p_1.n p_1.c, .slice d_1.A d_1.n d_1.c, .bool e20_, .slice p_2.A p_2.n p_2.c, .slice d_2.A d_2.n d_2.c, .bool zr0_, .slice p_3.A p_3.n p_3.c, .slice d_3.A d_3.n d_3.c, .bool cp0_, .slice c1.A c1.n c1.c, .slice c2.A c2.n c2.c, .bool sp0_, .slice s1.A s1.n s1.c, .slice s2.A s2.n s2.c, .bool m40_, .slice p_4.A p_4.n p_4.c, .slice d_4.A d_4.n d_4.c, .bool m30_, .slice p_6.A p_6.n p_6.c, .slice d_6.A d_6.n d_6.c, .bool e40_, .slice p_7.A p_7.n p_7.c, .slice d_7.A d_7.n d_7.c] : List Value) rfl
      have hB := setCells_below (show w.heap.size ≤ w.heap.size + 1 by omega) ([.bool cq0_, .slice d1.A d1.n d1.c, .slice d2.A d2.n d2.c, .bool m10_, .slice p_1.A p_1.n p_1.c, .slice d_1.A d_1.n d_1.c, .bool e20_, .slice p_2.A p_2.n p_2.c, .slice d_2.A d_2.n d_2.c, .bool zr0_, .slice p_3.A p_3.n p_3.c, .slice d_3.A d_3.n d_3.c, .bool cp0_, .slice c1.A c1.n c1.c, .slice c2.A c2.n c2.c, .bool sp0_, .slice s1.A s1.n s1.c, .slice s2.A s2.n s2.c, .bool m40_, .slice p_4.A p_4.n p_4.c, .slice d_4.A d_4.n d_4.c, .bool m30_, .slice p_6.A p_6.n p_6.c, .slice d_6.A d_6.n d_6.c, .bool e40_, .slice p_7.A p_7.n p_7.c, .slice d_7.A d_7.n d_7.c] : List Value) 0 _ (bstep hB hv8)
      have hc0 : wq7.cell? ⟨w.heap.size + 1, 0, none⟩ = some (.bool false) := (cell_of_row _ _ 0 _ _ _ RoX).trans rfl
      have KC := Lib.hid (KC.out.setCells hc0 ([.bool cq0_, .slice d1.A d1.n d1.c, .slice d2.A d2.n d2.c, .bool m10_, .slice p_1.A p_1.n p_1.c, .slice d_1.A d_1.n d_1.c, .bool e20_, .slice p_2.A p_2.n p_2.c, .slice d_2.A d_2.n d_2.c, .bool zr0_, .slice p_3.A p_3.n p_3.c, .slice d_3.A d_3.n d_3.c, .bool cp0_, .slice c1.A c1.n c1.c, .slice c2.A c2.n c2.c, .bool sp0_, .slice s1.A s1.n s1.c, .slice s2.A s2.n s2.c, .bool m40_, .slice p_4.A p_4.n p_4.c, .slice d_4.A d_4.n d_4.c, .bool m30_, .slice p_6.A p_6.n p_6.c, .slice d_6.A d_6.n d_6.c, .bool e40_, .slice p_7.A p_7.n p_7.c, .slice d_7.A d_7.n d_7.c] : List Value))
      have KS := Lib.hid (KS.out.setCells hc0 ([.bool cq0_, .slice d1.A d1.n d1.c, .slice d2.A d2.n d2.c, .bool m10_, .slice p_1.A p_1.n p_1.c, .slice d_1.A d_1.n d_1.c, .bool e20_, .slice p_2.A p_2.n p_2.c, .slice d_2.A d_2.n d_2.c, .bool zr0_, .slice p_3.A p_3.n p_3.c, .slice d_3.A d_3.n d_3.c, .bool cp0_, .slice c1.A c1.n c1.c, .slice c2.A c2.n c2.c, .bool sp0_, .slice s1.A s1.n s1.c, .slice s2.A s2.n s2.c, .bool m40_, .slice p_4.A p_4.n p_4.c, .slice d_4.A d_4.n d_4.c, .bool m30_, .slice p_6.A p_6.n p_6.c, .slice d_6.A d_6.n d_6.c, .bool e40_, .slice p_7.A p_7.n p_7.c, .slice d_7.A d_7.n d_7.c] : List Value))
      have KD := Lib.hid (KD.out.setCells hc0 ([.bool cq0_, .slice d1.A d1.n d1.c, .slice d2.A d2.n d2.c, .bool m10_, .slice p_1.A p_1.n p_1.c, .slice d_1.A d_1.n d_1.c, .bool e20_, .slice p_2.A p_2.n p_2.c, .slice d_2.A d_2.n d_2.c, .bool zr0_, .slice p_3.A p_3.n p_3.c, .slice d_3.A d_3.n d_3.c, .bool cp0_, .slice c1.A c1.n c1.c, .slice c2.A c2.n c2.c, .bool sp0_, .slice s1.A s1.n s1.c, .slice s2.A s2.n s2.c, .bool m40_, .slice p_4.A p_4.n p_4.c, .slice d_4.A d_4.n d_4.c, .bool m30_, .slice p_6.A p_6.n p_6.c, .slice d_6.A d_6.n d_6.c, .bool e40_, .slice p_7.A p_7.n p_7.c, .slice d_7.A d_7.n d_7.c] : List Value))
      have L1 := Lib.hid (L1.out.setCells hc0 ([.bool cq0_, .slice d1.A d1.n d1.c, .slice d2.A d2.n d2.c, .bool m10_, .slice p_1.A p_1.n p_1.c, .slice d_1.A d_1.n d_1.c, .bool e20_, .slice p_2.A p_2.n p_2.c, .slice d_2.A d_2.n d_2.c, .bool zr0_, .slice p_3.A p_3.n p_3.c, .slice d_3.A d_3.n d_3.c, .bool cp0_, .slice c1.A c1.n c1.c, .slice c2.A c2.n c2.c, .bool sp0_, .slice s1.A s1.n s1.c, .slice s2.A s2.n s2.c, .bool m40_, .slice p_4.A p_4.n p_4.c, .slice d_4.A d_4.n d_4.c, .bool m30_, .slice p_6.A p_6.n p_6.c, .slice d_6.A d_6.n d_6.c, .bool e40_, .slice p_7.A p_7.n p_7.c, .slice d_7.A d_7.n d_7.c] : List Value))
      have L2 := Lib.hid (L2.out.setCells hc0 ([.bool cq0_, .slice d1.A d1.n d1.c, .slice d2.A d2.n d2.c, .bool m10_, .slice p_1.A p_1.n p_1.c, .slice d_1.A d_1.n d_1.c, .bool e20_, .slice p_2.A p_2.n p_2.c, .slice d_2.A d_2.n d_2.c, .bool zr0_, .slice p_3.A p_3.n p_3.c, .slice d_3.A d_3.n d_3.c, .bool cp0_, .slice c1.A c1.n c1.c, .slice c2.A c2.n c2.c, .bool sp0_, .slice s1.A s1.n s1.c, .slice s2.A s2.n s2.c, .bool m40_, .slice p_4.A p_4.n p_4.c, .slice d_4.A d_4.n d_4.c, .bool m30_, .slice p_6.A p_6.n p_6.c, .slice d_6.A d_6.n d_6.c, .bool e40_, .slice p_7.A p_7.n p_7.c, .slice d_7.A d_7.n d_7.c] : List Value))
      have L3 := Lib.hid (L3.out.setCells hc0 ([.bool cq0_, .slice d1.A d1.n d1.c, .slice d2.A d2.n d2.c, .bool m10_, .slice p_1.A p_1.n p_1.c, .slice d_1.A d_1.n d_1.c, .bool e20_, .slice p_2.A p_2.n p_2.c, .slice d_2.A d_2.n d_2.c, .bool zr0_, .slice p_3.A p_3.n p_3.c, .slice d_3.A d_3.n d_3.c, .bool cp0_, .slice c1.A c1.n c1.c, .slice c2.A c2.n c2.c, .bool sp0_, .slice s1.A s1.n s1.c, .slice s2.A s2.n s2.c, .bool m40_, .slice p_4.A p_4.n p_4.c, .slice d_4.A d_4.n d_4.c, .bool m30_, .slice p_6.A p_6.n p_6.c, .slice d_6.A d_6.n d_6.c, .bool e40_, .slice p_7.A p_7.n p_7.c, .slice d_7.A d_7.n d_7.c] : List Value))
      have L4 := Lib.hid (L4.out.setCells hc0 ([.bool cq0_, .slice d1.A d1.n d1.c, .slice d2.A d2.n d2.c, .bool m10_, .slice p_1.A p_1.n p_1.c, .slice d_1.A d_1.n d_1.c, .bool e20_, .slice p_2.A p_2.n p_2.c, .slice d_2.A d_2.n d_2.c, .bool zr0_, .slice p_3.A p_3.n p_3.c, .slice d_3.A d_3.n d_3.c, .bool cp0_, .slice c1.A c1.n c1.c, .slice c2.A c2.n c2.c, .bool sp0_, .slice s1.A s1.n s1.c, .slice s2.A s2.n s2.c, .bool m40_, .slice p_4.A p_4.n p_4.c, .slice d_4.A d_4.n d_4.c, .bool m30_, .slice p_6.A p_6.n p_6.c, .slice d_6.A d_6.n d_6.c, .bool e40_, .slice p_7.A p_7.n p_7.c, .slice d_7.A d_7.n d_7.c] : List Value))
      have L6 := Lib.hid (L6.out.setCells hc0 ([.bool cq0_, .slice d1.A d1.n d1.c, .slice d2.A d2.n d2.c, .bool m10_, .slice p_1.A p_1.n p_1.c, .slice d_1.A d_1.n d_1.c, .bool e20_, .slice p_2.A p_2.n p_2.c, .slice d_2.A d_2.n d_2.c, .bool zr0_, .slice p_3.A p_3.n p_3.c, .slice d_3.A d_3.n d_3.c, .bool cp0_, .slice c1.A c1.n c1.c, .slice c2.A c2.n c2.c, .bool sp0_, .slice s1.A s1.n s1.c, .slice s2.A s2.n s2.c, .bool m40_, .slice p_4.A p_4.n p_4.c, .slice d_4.A d_4.n d_4.c, .bool m30_, .slice p_6.A p_6.n p_6.c, .slice d_6.A d_6.n d_6.c, .bool e40_, .slice p_7.A p_7.n p_7.c, .slice d_7.A d_7.n d_7.c] : List Value))
      have L7 := Lib.hid (L7.out.setCells hc0 ([.bool cq0_, .slice d1.A d1.n d1.c, .slice d2.A d2.n d2.c, .bool m10_, .slice p_1.A p_1.n p_1.c, .slice d_1.A d_1.n d_1.c, .bool e20_, .slice p_2.A p_2.n p_2.c, .slice d_2.A d_2.n d_2.c, .bool zr0_, .slice p_3.A p_3.n p_3.c, .slice d_3.A d_3.n d_3.c, .bool cp0_, .slice c1.A c1.n c1.c, .slice c2.A c2.n c2.c, .bool sp0_, .slice s1.A s1.n s1.c, .slice s2.A s2.n s2.c, .bool m40_, .slice p_4.A p_4.n p_4.c, .slice d_4.A d_4.n d_4.c, .bool m30_, .slice p_6.A p_6.n p_6.c, .slice d_6.A d_6.n d_6.c, .bool e40_, .slice p_7.A p_7.n p_7.c, .slice d_7.A d_7.n d_7.c] : List Value))
      clear hc0 RoX HT
      generalize World.setCells _ _ _ _ = X at *
      go_wp2_with fail
      exact bodyPost_ret (res_ct rfl fr16_row rfl E2 rfl) rfl ⟨⟨⟨d1, d2⟩, ⟨p_1, d_1⟩, ⟨p_2, d_2⟩⟩, ⟨⟨p_3, d_3⟩, ⟨c1, c2⟩, ⟨s1, s2⟩⟩, ⟨⟨p_4, d_4⟩, ⟨p_6, d_6⟩, ⟨p_7, d_7⟩⟩, rfl, ⟨KD.out, L1.out, L2.out⟩, ⟨L3.out, KC.out, KS.out⟩, ⟨L4.out, L6.out, L7.out⟩, hB⟩
end Go.Proofs.YthkkdepppjiaeaaGreatDoor
