/- A PART OF THE PROOF, JOINED OUT OF 5 TEXTS. -/
import Derived.Test.YthkkdepppjiaeaaGreatDoorPbNat
import Derived.Lib.MinMax
import Derived.Deep.RegionWith
import Derived.Deep.DeepMust
import Derived.IntWalk
/- Walks of the program's package natural: merge, plus, minus. -/
namespace Go.Proofs.YthkkdepppjiaeaaGreatDoor
open Go.RowKit

/-- i rounds of merge: the words so far and the carry. -/
structure MgI (a b o : List Int) (s : Int) (i : Nat) (c : Int) : Prop where
  ok : WOk o
  len : o.length = i
  c0 : -1 ≤ c
  c1 : c ≤ 1
  eq : wval o + c * bpow i = wval (a.take i) + s * wval (b.take i)

theorem MgI.start (a b : List Int) (s : Int) : MgI a b [] s 0 0 := ⟨WOk.nil, rfl, by decide, by decide, by simp [wval]⟩
theorem wval_take_any (a : List Int) (i : Nat) : wval (a.take (i + 1)) = wval (a.take i) + bpow i * a[i]?.getD 0 := by
  by_cases h : i < a.length
  · exact wval_take_succ a i h
  · rw [List.take_of_length_le (by omega), List.take_of_length_le (by omega), List.getElem?_eq_none (by omega)]
    simp
theorem MgI.step {a b o : List Int} {s : Int} {i : Nat} {c : Int} (h : MgI a b o s i c) (ha : WOk a) (hb : WOk b) (hs : s = 1 ∨ s = -1) {q r : Int} (hr0 : 0 ≤ r) (hr1 : r < 1000000000)
    (hq : q * 1000000000 + r = c + a[i]?.getD 0 + s * b[i]?.getD 0) : MgI a b (o ++ [r]) s (i + 1) q := by
  have hx := ha.getD i
  have hy := hb.getD i
  rw [List.getD_eq_getElem?_getD] at hx hy
  have h0 := h.c0
  have h1 := h.c1
  have he := h.eq
  have e1 := wval_take_any a i
  have e2 := wval_take_any b i
  refine ⟨h.ok.append (fun x hx => by rw [List.mem_singleton] at hx; subst hx; exact ⟨hr0, hr1⟩), by simp [h.len], ?_, ?_, ?_⟩
  · rcases hs with rfl | rfl <;> omega
  · rcases hs with rfl | rfl <;> omega
  · rw [wval_snoc, h.len, e1, e2, bpow_succ]
    generalize a[i]?.getD 0 = x at *
    generalize b[i]?.getD 0 = y at *
    generalize bpow i = t at *
    have : t * r + q * (1000000000 * t) = t * (c + x + s * y) := by rw [← hq]; grind
    grind
theorem can_of_low {l : List Int} (h : WOk l) (h0 : l ≠ []) (hl : bpow (l.length - 1) ≤ wval l) : Can l := by
  refine ⟨h, fun e => ?_⟩
  rcases List.eq_nil_or_concat l with rfl | ⟨m, c, rfl⟩
  · exact h0 rfl
  · rw [List.concat_eq_append] at *
    simp at e
    subst e
    rw [wval_snoc] at hl
    have := wval_lt h.left
    simp at hl
    omega
/-- The end of merge. -/
theorem MgI.done {a b o : List Int} {s : Int} {n : Nat} {c : Int} (h : MgI a b o s n c) (hn : n = max a.length b.length) (ha : Can a) (hb : Can b) (hnn : 0 ≤ wval a + s * wval b) :
    0 ≤ c ∧ wval (o ++ if 0 < c then [c] else []) = wval a + s * wval b ∧ WOk (o ++ if 0 < c then [c] else []) ∧ (s = 1 → Can (o ++ if 0 < c then [c] else [])) := by
  have he := h.eq
  rw [List.take_of_length_le (by omega), List.take_of_length_le (by omega)] at he
  have h1 := wval_lt h.ok
  have h2 := wval_nonneg h.ok
  rw [h.len] at h1
  have hc0 := h.c0
  have hc1 := h.c1
  have hp := bpow_pos n
  have hcn : 0 ≤ c := by
    by_cases hc : c = -1
    · subst hc; omega
    · omega
  rcases (show c = 0 ∨ c = 1 by omega) with rfl | rfl
  · have e0 : (o ++ if (0 : Int) < 0 then [0] else []) = o := by simp
    rw [e0]
    refine ⟨hcn, by omega, h.ok, fun hs => ?_⟩
    subst hs
    by_cases hn0 : n = 0
    · rw [List.eq_nil_of_length_eq_zero (l := o) (by rw [h.len, hn0])]; exact Can.nil
    · refine can_of_low h.ok (by intro e; rw [e] at h; have := h.len; simp at this; omega) ?_
      rw [h.len]
      have wa := wval_nonneg ha.1
      have wb := wval_nonneg hb.1
      by_cases hab : a.length ≤ b.length
      · have := hb.low (by rintro rfl; simp at hab; rw [hab] at hn; simp at hn; omega)
        rw [show n = b.length by omega]; omega
      · have := ha.low (by rintro rfl; simp at hab)
        rw [show n = a.length by omega]; omega
  · have e0 : (o ++ if (0 : Int) < 1 then [1] else []) = o ++ [1] := by simp
    rw [e0]
    refine ⟨hcn, by rw [wval_snoc, h.len]; omega, h.ok.append (fun x hx => by rw [List.mem_singleton] at hx; subst hx; decide), fun _ => ⟨h.ok.append (fun x hx => by rw [List.mem_singleton] at hx; subst hx; decide), by simp⟩⟩

theorem tdm_neg {t : Int} (h0 : -1000000000 < t) (h1 : t < 0) : t.tdiv 1000000000 = 0 ∧ t.tmod 1000000000 = t := by
  have e1 : t = -(-t) := by omega
  constructor
  · rw [e1, Int.neg_tdiv, Int.tdiv_eq_zero_of_lt (by omega) (by omega)]; rfl
  · rw [e1, Int.neg_tmod, Int.tmod_eq_of_lt (by omega) (by omega)]

theorem one_cell (w : World) (v : Value) (e : TypeId) : ∀ j u, [v][j]? = some u → (w.alloc (.cells #[v] e)).cell? ((⟨w.heap.size, 0, none⟩ : Addr).add j) = some u := by
  intro j u hj
  match j, hj with
  | 0, hj => simp at hj; subst hj; simp [Addr.add]

theorem Own.app {w wr w2 : World} {B : Nat} {v v' : Value} {o : List Int} {r : Int} {X : Obj} (h : Own wr B v o) (hb : Below B w wr) (hs : B ≤ wr.heap.size)
    (hown : w2.ownsRow B 101 1 v' (o.length + 1) (o.map (Value.int .u32) ++ [.int .u32 r])) (hg : (wr.alloc X).grownBy w2 v.ownBlock) : Own w2 B v' (o ++ [r]) ∧ Below B w w2 := by
  refine ⟨?_, (hb.alloc hs X).grown hg (by simp; omega) (fun k hk => (World.ownsRow.lt h k hk).1)⟩
  unfold Own
  rw [List.length_append, List.map_append]
  exact hown

set_option maxRecDepth 100000 in
set_option maxHeartbeats 4000000 in
theorem na_merge (va vb : Value) (a b : List Int) (s : Int) (w : World) (hA : Rd w va a) (hB : Rd w vb b) (ha : Can a) (hb : Can b) (hm : a.length ≤ 400000000) (hn : b.length ≤ 400000000) (hs : s = 1 ∨ s = -1) (hnn : 0 ≤ wval a + s * wval b) :
    Calls Tryz.prog 262 #[va, vb, .int .i64 s] w fun e w' =>
      ∃ v o, e = .returned v ∧ Own w' w.heap.size v o ∧ wval o = wval a + s * wval b ∧ WOk o ∧ (s = 1 → Can o) ∧ Below w.heap.size w w' := by
  obtain ⟨A, c, rfl, a1, a2, a3⟩ := hA
  obtain ⟨B, d, rfl, b1, b2, b3⟩ := hB
  unfold maxLen at a2 b2
  have OA := Lib.hid ha.1
  have OB := Lib.hid hb.1
  have RA := Lib.hid a3
  have RB := Lib.hid b3
  have HS := Lib.hid (MgI.start a b s)
  have HD : Hid (∀ o c, MgI a b o s (max a.length b.length) c → 0 ≤ c ∧ wval (o ++ if 0 < c then [c] else []) = wval a + s * wval b ∧ WOk (o ++ if 0 < c then [c] else []) ∧ (s = 1 → Can (o ++ if 0 < c then [c] else []))) := Lib.hid (fun o c h => h.done rfl ha hb hnn)
  have hs' := Lib.hid hs
  have hsb : -1 ≤ s ∧ s ≤ 1 := by omega
  have hs0 := hsb.1
  have hs1 := hsb.2
  obtain ⟨i0, hi, hz0, hz1, hz2⟩ := info_parts inf32
  clear a3 b3 ha hb hnn hs hsb
  go_enter Tryz.func262, Tryz.ntmps262
  go_wp2_with (at_make; refine wpList_make_own _ rfl _ _ 274 rfl w.heap.size 101 i0 (.int .u32 0) 1 Tryz.underlying274 hi hz0 hz1 _ _ _ (a.length + 1) rfl rfl (by simp) (by rw [hz2]; omega) (by unfold maxLen; omega) (Nat.le_refl _) ?_; intro w1 hown hgrow)
  have hBl : Below w.heap.size w w1 := (Below.refl _ _).grown hgrow (Nat.le_refl _) (fun k hk => by cases hk)
  have HO : Hid (Own w1 w.heap.size (.slice (some ⟨w.heap.size, 0, none⟩) 0 (a.length + 1)) []) := Lib.hid hown
  clear hown hgrow
  obtain ⟨N, hN⟩ : ∃ N, N = max a.length b.length := ⟨_, rfl⟩
  have hNe : (max (a.length : Int) b.length) = (N : Int) := by omega
  have hNa : a.length ≤ N := by omega
  have hNb : b.length ≤ N := by omega
  have hNm : N ≤ 400000000 := by omega
  rw [← hN] at HD
  have HNm : Hid (N ≤ a.length ∨ N ≤ b.length) := Lib.hid (by omega)
  clear hN
  go_wp2
  rw [hNe]
  clear hNe
  go_loopw [7, 8, 20] (fun v cx ix wr => ∃ (i : Nat) (o : List Int) (c : Int), i ≤ N ∧ ix = .int .i64 i ∧ cx = .int .i64 c ∧ Hid (MgI a b o s i c) ∧ Hid (Own wr w.heap.size v o) ∧ Below w.heap.size w wr) (fun _ _ ix _ => N - (intOf ix).toNat)
  case atStart => exact ⟨0, [], 0, Nat.zero_le _, rfl, rfl, HS, HO, hBl⟩
  case round =>
    obtain ⟨i, o, cr, hiN, rfl, rfl, HI, HW, hBr⟩ := hrel
    have hsz := hBr.size
    have hc0 := HI.out.c0
    have hc1 := HI.out.c1
    have gx := OA.out.getD i
    have gy := OB.out.getD i
    rw [List.getD_eq_getElem?_getD] at gx gy
    have gx0 := gx.1
    have gx1 := gx.2
    have gy0 := gy.1
    have gy1 := gy.2
    have hol := HI.out.len
    have hle : o.length ≤ 400000000 := by omega
    have HL := Lib.hid hol
    clear gx gy hol
    have ST : Hid (∀ q r : Int, 0 ≤ r → r < 1000000000 → q * 1000000000 + r = cr + a[i]?.getD 0 + s * b[i]?.getD 0 → MgI a b (o ++ [r]) s (i + 1) q) := Lib.hid (fun q r h0 h1 h2 => HI.out.step OA.out OB.out hs'.out h0 h1 h2)
    by_cases h0 : i < N
    · by_cases ca : i < a.length
      · by_cases cb : i < b.length
        · obtain ⟨ba, rfl, hc⟩ := (RA.out.below hBr).at_ (by omega)
          have cx := hc i ca
          clear hc
          generalize a[i]?.getD 0 = x at *
          obtain ⟨bb, rfl, hc⟩ := (RB.out.below hBr).at_ (by omega)
          have cy := hc i cb
          clear hc
          generalize b[i]?.getD 0 = y at *
          rcases hs'.out with rfl | rfl
          · by_cases ht : 0 ≤ cr + x + y
            · go_wp2_with (at_builtin; refine wpList_append_own _ rfl (.tmp 57) (.tmp 60) 274 rfl w.heap.size 101 i0 (.int .u32 0) 1 4 Tryz.underlying274 hi hz0 hz1 hz2 rfl (by decide) _ _ _ rfl (World.ownsRow.alloc HW.out _) ⟨wr.heap.size, 0, none⟩ 1 1 _ rfl rfl (one_cell _ _ _) (fun u hu => by rw [List.mem_singleton] at hu; subst hu; rfl) (by unfold maxLen; omega) (by omega) (by simp; omega) ?_; intro v' w2 hown hgrow _)
              obtain ⟨hO, hB2⟩ := HW.out.app hBr hsz hown hgrow
              exact ⟨⟨i + 1, _, _, by omega, by simp, rfl, Lib.hid (ST.out _ _ (by omega) (by omega) (by omega)), Lib.hid hO, hB2⟩, by simp [intOf]; omega⟩
            · have hd := tdm_neg (t := cr + x + y) (by omega) (by omega)
              have hd1 := hd.1
              have hd2 := hd.2
              clear hd
              go_wp2_with (at_builtin; refine wpList_append_own _ rfl (.tmp 57) (.tmp 60) 274 rfl w.heap.size 101 i0 (.int .u32 0) 1 4 Tryz.underlying274 hi hz0 hz1 hz2 rfl (by decide) _ _ _ rfl (World.ownsRow.alloc HW.out _) ⟨wr.heap.size, 0, none⟩ 1 1 _ rfl rfl (one_cell _ _ _) (fun u hu => by rw [List.mem_singleton] at hu; subst hu; rfl) (by unfold maxLen; omega) (by omega) (by simp; omega) ?_; intro v' w2 hown hgrow _)
              obtain ⟨hO, hB2⟩ := HW.out.app hBr hsz hown hgrow
              exact ⟨⟨i + 1, _, _, by omega, by simp, rfl, Lib.hid (ST.out _ _ (by omega) (by omega) (by omega)), Lib.hid hO, hB2⟩, by simp [intOf]; omega⟩
          · by_cases ht : 0 ≤ cr + x + -y
            · go_wp2_with (at_builtin; refine wpList_append_own _ rfl (.tmp 57) (.tmp 60) 274 rfl w.heap.size 101 i0 (.int .u32 0) 1 4 Tryz.underlying274 hi hz0 hz1 hz2 rfl (by decide) _ _ _ rfl (World.ownsRow.alloc HW.out _) ⟨wr.heap.size, 0, none⟩ 1 1 _ rfl rfl (one_cell _ _ _) (fun u hu => by rw [List.mem_singleton] at hu; subst hu; rfl) (by unfold maxLen; omega) (by omega) (by simp; omega) ?_; intro v' w2 hown hgrow _)
              obtain ⟨hO, hB2⟩ := HW.out.app hBr hsz hown hgrow
              exact ⟨⟨i + 1, _, _, by omega, by simp, rfl, Lib.hid (ST.out _ _ (by omega) (by omega) (by omega)), Lib.hid hO, hB2⟩, by simp [intOf]; omega⟩
            · by_cases ht2 : cr + x + -y = -1000000000
              · have hd1 : (cr + x + -y).tdiv 1000000000 = -1 := by rw [ht2]; rfl
                have hd2 : (cr + x + -y).tmod 1000000000 = 0 := by rw [ht2]; rfl
                have HT := Lib.hid ht2
                clear ht2
                go_wp2_with (at_builtin; refine wpList_append_own _ rfl (.tmp 57) (.tmp 60) 274 rfl w.heap.size 101 i0 (.int .u32 0) 1 4 Tryz.underlying274 hi hz0 hz1 hz2 rfl (by decide) _ _ _ rfl (World.ownsRow.alloc HW.out _) ⟨wr.heap.size, 0, none⟩ 1 1 _ rfl rfl (one_cell _ _ _) (fun u hu => by rw [List.mem_singleton] at hu; subst hu; rfl) (by unfold maxLen; omega) (by omega) (by simp; omega) ?_; intro v' w2 hown hgrow _)
                have ht2 := HT.out
                obtain ⟨hO, hB2⟩ := HW.out.app hBr hsz hown hgrow
                exact ⟨⟨i + 1, _, _, by omega, by simp, rfl, Lib.hid (ST.out _ _ (by omega) (by omega) (by omega)), Lib.hid hO, hB2⟩, by simp [intOf]; omega⟩
              · have hd := tdm_neg (t := cr + x + -y) (by omega) (by omega)
                have hd1 := hd.1
                have hd2 := hd.2
                clear hd
                go_wp2_with (at_builtin; refine wpList_append_own _ rfl (.tmp 57) (.tmp 60) 274 rfl w.heap.size 101 i0 (.int .u32 0) 1 4 Tryz.underlying274 hi hz0 hz1 hz2 rfl (by decide) _ _ _ rfl (World.ownsRow.alloc HW.out _) ⟨wr.heap.size, 0, none⟩ 1 1 _ rfl rfl (one_cell _ _ _) (fun u hu => by rw [List.mem_singleton] at hu; subst hu; rfl) (by unfold maxLen; omega) (by omega) (by simp; omega) ?_; intro v' w2 hown hgrow _)
                obtain ⟨hO, hB2⟩ := HW.out.app hBr hsz hown hgrow
                exact ⟨⟨i + 1, _, _, by omega, by simp, rfl, Lib.hid (ST.out _ _ (by omega) (by omega) (by omega)), Lib.hid hO, hB2⟩, by simp [intOf]; omega⟩
        · obtain ⟨ba, rfl, hc⟩ := (RA.out.below hBr).at_ (by omega)
          have cx := hc i ca
          clear hc
          generalize a[i]?.getD 0 = x at *
          have hy : b[i]?.getD 0 = 0 := by rw [List.getElem?_eq_none (by omega)]; rfl
          rw [hy] at ST
          clear hy gy0 gy1
          rcases hs'.out with rfl | rfl
          · by_cases ht : 0 ≤ cr + x
            · go_wp2_with (at_builtin; refine wpList_append_own _ rfl (.tmp 57) (.tmp 60) 274 rfl w.heap.size 101 i0 (.int .u32 0) 1 4 Tryz.underlying274 hi hz0 hz1 hz2 rfl (by decide) _ _ _ rfl (World.ownsRow.alloc HW.out _) ⟨wr.heap.size, 0, none⟩ 1 1 _ rfl rfl (one_cell _ _ _) (fun u hu => by rw [List.mem_singleton] at hu; subst hu; rfl) (by unfold maxLen; omega) (by omega) (by simp; omega) ?_; intro v' w2 hown hgrow _)
              obtain ⟨hO, hB2⟩ := HW.out.app hBr hsz hown hgrow
              exact ⟨⟨i + 1, _, _, by omega, by simp, rfl, Lib.hid (ST.out _ _ (by omega) (by omega) (by omega)), Lib.hid hO, hB2⟩, by simp [intOf]; omega⟩
            · have hd := tdm_neg (t := cr + x) (by omega) (by omega)
              have hd1 := hd.1
              have hd2 := hd.2
              clear hd
              go_wp2_with (at_builtin; refine wpList_append_own _ rfl (.tmp 57) (.tmp 60) 274 rfl w.heap.size 101 i0 (.int .u32 0) 1 4 Tryz.underlying274 hi hz0 hz1 hz2 rfl (by decide) _ _ _ rfl (World.ownsRow.alloc HW.out _) ⟨wr.heap.size, 0, none⟩ 1 1 _ rfl rfl (one_cell _ _ _) (fun u hu => by rw [List.mem_singleton] at hu; subst hu; rfl) (by unfold maxLen; omega) (by omega) (by simp; omega) ?_; intro v' w2 hown hgrow _)
              obtain ⟨hO, hB2⟩ := HW.out.app hBr hsz hown hgrow
              exact ⟨⟨i + 1, _, _, by omega, by simp, rfl, Lib.hid (ST.out _ _ (by omega) (by omega) (by omega)), Lib.hid hO, hB2⟩, by simp [intOf]; omega⟩
          · by_cases ht : 0 ≤ cr + x
            · go_wp2_with (at_builtin; refine wpList_append_own _ rfl (.tmp 57) (.tmp 60) 274 rfl w.heap.size 101 i0 (.int .u32 0) 1 4 Tryz.underlying274 hi hz0 hz1 hz2 rfl (by decide) _ _ _ rfl (World.ownsRow.alloc HW.out _) ⟨wr.heap.size, 0, none⟩ 1 1 _ rfl rfl (one_cell _ _ _) (fun u hu => by rw [List.mem_singleton] at hu; subst hu; rfl) (by unfold maxLen; omega) (by omega) (by simp; omega) ?_; intro v' w2 hown hgrow _)
              obtain ⟨hO, hB2⟩ := HW.out.app hBr hsz hown hgrow
              exact ⟨⟨i + 1, _, _, by omega, by simp, rfl, Lib.hid (ST.out _ _ (by omega) (by omega) (by omega)), Lib.hid hO, hB2⟩, by simp [intOf]; omega⟩
            · by_cases ht2 : cr + x = -1000000000
              · have hd1 : (cr + x).tdiv 1000000000 = -1 := by rw [ht2]; rfl
                have hd2 : (cr + x).tmod 1000000000 = 0 := by rw [ht2]; rfl
                have HT := Lib.hid ht2
                clear ht2
                go_wp2_with (at_builtin; refine wpList_append_own _ rfl (.tmp 57) (.tmp 60) 274 rfl w.heap.size 101 i0 (.int .u32 0) 1 4 Tryz.underlying274 hi hz0 hz1 hz2 rfl (by decide) _ _ _ rfl (World.ownsRow.alloc HW.out _) ⟨wr.heap.size, 0, none⟩ 1 1 _ rfl rfl (one_cell _ _ _) (fun u hu => by rw [List.mem_singleton] at hu; subst hu; rfl) (by unfold maxLen; omega) (by omega) (by simp; omega) ?_; intro v' w2 hown hgrow _)
                have ht2 := HT.out
                obtain ⟨hO, hB2⟩ := HW.out.app hBr hsz hown hgrow
                exact ⟨⟨i + 1, _, _, by omega, by simp, rfl, Lib.hid (ST.out _ _ (by omega) (by omega) (by omega)), Lib.hid hO, hB2⟩, by simp [intOf]; omega⟩
              · have hd := tdm_neg (t := cr + x) (by omega) (by omega)
                have hd1 := hd.1
                have hd2 := hd.2
                clear hd
                go_wp2_with (at_builtin; refine wpList_append_own _ rfl (.tmp 57) (.tmp 60) 274 rfl w.heap.size 101 i0 (.int .u32 0) 1 4 Tryz.underlying274 hi hz0 hz1 hz2 rfl (by decide) _ _ _ rfl (World.ownsRow.alloc HW.out _) ⟨wr.heap.size, 0, none⟩ 1 1 _ rfl rfl (one_cell _ _ _) (fun u hu => by rw [List.mem_singleton] at hu; subst hu; rfl) (by unfold maxLen; omega) (by omega) (by simp; omega) ?_; intro v' w2 hown hgrow _)
                obtain ⟨hO, hB2⟩ := HW.out.app hBr hsz hown hgrow
                exact ⟨⟨i + 1, _, _, by omega, by simp, rfl, Lib.hid (ST.out _ _ (by omega) (by omega) (by omega)), Lib.hid hO, hB2⟩, by simp [intOf]; omega⟩
      · have cb : i < b.length := by have := HNm.out; omega
        have hx : a[i]?.getD 0 = 0 := by rw [List.getElem?_eq_none (by omega)]; rfl
        rw [hx] at ST
        clear hx gx0 gx1
        obtain ⟨bb, rfl, hc⟩ := (RB.out.below hBr).at_ (by omega)
        have cy := hc i cb
        clear hc
        generalize b[i]?.getD 0 = y at *
        rcases hs'.out with rfl | rfl
        · by_cases ht : 0 ≤ cr + y
          · go_wp2_with (at_builtin; refine wpList_append_own _ rfl (.tmp 57) (.tmp 60) 274 rfl w.heap.size 101 i0 (.int .u32 0) 1 4 Tryz.underlying274 hi hz0 hz1 hz2 rfl (by decide) _ _ _ rfl (World.ownsRow.alloc HW.out _) ⟨wr.heap.size, 0, none⟩ 1 1 _ rfl rfl (one_cell _ _ _) (fun u hu => by rw [List.mem_singleton] at hu; subst hu; rfl) (by unfold maxLen; omega) (by omega) (by simp; omega) ?_; intro v' w2 hown hgrow _)
            obtain ⟨hO, hB2⟩ := HW.out.app hBr hsz hown hgrow
            exact ⟨⟨i + 1, _, _, by omega, by simp, rfl, Lib.hid (ST.out _ _ (by omega) (by omega) (by omega)), Lib.hid hO, hB2⟩, by simp [intOf]; omega⟩
          · have hd := tdm_neg (t := cr + y) (by omega) (by omega)
            have hd1 := hd.1
            have hd2 := hd.2
            clear hd
            go_wp2_with (at_builtin; refine wpList_append_own _ rfl (.tmp 57) (.tmp 60) 274 rfl w.heap.size 101 i0 (.int .u32 0) 1 4 Tryz.underlying274 hi hz0 hz1 hz2 rfl (by decide) _ _ _ rfl (World.ownsRow.alloc HW.out _) ⟨wr.heap.size, 0, none⟩ 1 1 _ rfl rfl (one_cell _ _ _) (fun u hu => by rw [List.mem_singleton] at hu; subst hu; rfl) (by unfold maxLen; omega) (by omega) (by simp; omega) ?_; intro v' w2 hown hgrow _)
            obtain ⟨hO, hB2⟩ := HW.out.app hBr hsz hown hgrow
            exact ⟨⟨i + 1, _, _, by omega, by simp, rfl, Lib.hid (ST.out _ _ (by omega) (by omega) (by omega)), Lib.hid hO, hB2⟩, by simp [intOf]; omega⟩
        · by_cases ht : 0 ≤ cr + -y
          · go_wp2_with (at_builtin; refine wpList_append_own _ rfl (.tmp 57) (.tmp 60) 274 rfl w.heap.size 101 i0 (.int .u32 0) 1 4 Tryz.underlying274 hi hz0 hz1 hz2 rfl (by decide) _ _ _ rfl (World.ownsRow.alloc HW.out _) ⟨wr.heap.size, 0, none⟩ 1 1 _ rfl rfl (one_cell _ _ _) (fun u hu => by rw [List.mem_singleton] at hu; subst hu; rfl) (by unfold maxLen; omega) (by omega) (by simp; omega) ?_; intro v' w2 hown hgrow _)
            obtain ⟨hO, hB2⟩ := HW.out.app hBr hsz hown hgrow
            exact ⟨⟨i + 1, _, _, by omega, by simp, rfl, Lib.hid (ST.out _ _ (by omega) (by omega) (by omega)), Lib.hid hO, hB2⟩, by simp [intOf]; omega⟩
          · by_cases ht2 : cr + -y = -1000000000
            · have hd1 : (cr + -y).tdiv 1000000000 = -1 := by rw [ht2]; rfl
              have hd2 : (cr + -y).tmod 1000000000 = 0 := by rw [ht2]; rfl
              have HT := Lib.hid ht2
              clear ht2
              go_wp2_with (at_builtin; refine wpList_append_own _ rfl (.tmp 57) (.tmp 60) 274 rfl w.heap.size 101 i0 (.int .u32 0) 1 4 Tryz.underlying274 hi hz0 hz1 hz2 rfl (by decide) _ _ _ rfl (World.ownsRow.alloc HW.out _) ⟨wr.heap.size, 0, none⟩ 1 1 _ rfl rfl (one_cell _ _ _) (fun u hu => by rw [List.mem_singleton] at hu; subst hu; rfl) (by unfold maxLen; omega) (by omega) (by simp; omega) ?_; intro v' w2 hown hgrow _)
              have ht2 := HT.out
              obtain ⟨hO, hB2⟩ := HW.out.app hBr hsz hown hgrow
              exact ⟨⟨i + 1, _, _, by omega, by simp, rfl, Lib.hid (ST.out _ _ (by omega) (by omega) (by omega)), Lib.hid hO, hB2⟩, by simp [intOf]; omega⟩
            · have hd := tdm_neg (t := cr + -y) (by omega) (by omega)
              have hd1 := hd.1
              have hd2 := hd.2
              clear hd
              go_wp2_with (at_builtin; refine wpList_append_own _ rfl (.tmp 57) (.tmp 60) 274 rfl w.heap.size 101 i0 (.int .u32 0) 1 4 Tryz.underlying274 hi hz0 hz1 hz2 rfl (by decide) _ _ _ rfl (World.ownsRow.alloc HW.out _) ⟨wr.heap.size, 0, none⟩ 1 1 _ rfl rfl (one_cell _ _ _) (fun u hu => by rw [List.mem_singleton] at hu; subst hu; rfl) (by unfold maxLen; omega) (by omega) (by simp; omega) ?_; intro v' w2 hown hgrow _)
              obtain ⟨hO, hB2⟩ := HW.out.app hBr hsz hown hgrow
              exact ⟨⟨i + 1, _, _, by omega, by simp, rfl, Lib.hid (ST.out _ _ (by omega) (by omega) (by omega)), Lib.hid hO, hB2⟩, by simp [intOf]; omega⟩
    · obtain rfl : i = N := by omega
      have hd := HD.out o cr HI.out
      have hp := hd.1
      have HE := Lib.hid hd.2
      clear hd
      by_cases hcp : 0 < cr
      · go_wp2_with (at_builtin; refine wpList_append_own _ rfl (.tmp 65) (.tmp 68) 274 rfl w.heap.size 101 i0 (.int .u32 0) 1 4 Tryz.underlying274 hi hz0 hz1 hz2 rfl (by decide) _ _ _ rfl (World.ownsRow.alloc HW.out _) ⟨wr.heap.size, 0, none⟩ 1 1 _ rfl rfl (one_cell _ _ _) (fun u hu => by rw [List.mem_singleton] at hu; subst hu; rfl) (by unfold maxLen; omega) (by omega) (by simp; omega) ?_; intro v' w2 hown hgrow _)
        obtain ⟨hO, hB2⟩ := HW.out.app hBr hsz hown hgrow
        go_ret
        have he := HE.out
        rw [if_pos hcp] at he
        exact ⟨_, _, rfl, hO, he.1, he.2.1, he.2.2, hB2⟩
      · go_wp2
        go_ret
        have he := HE.out
        rw [if_neg (by omega), List.append_nil] at he
        exact ⟨_, rfl, _, HW.out, he.1, he.2.1, he.2.2, hBr⟩

set_option maxHeartbeats 400000 in
theorem na_plus (va vb : Value) (m n : Nat) (w : World) (hA : Rd w va (ws m)) (hB : Rd w vb (ws n)) (hm : (ws m).length ≤ 400000000) (hn : (ws n).length ≤ 400000000) :
    Calls Tryz.prog 243 #[va, vb] w fun e w' => ∃ q, e = .returned q ∧ Own w' w.heap.size q (ws (m + n)) ∧ Below w.heap.size w w' := by
  have hc := na_merge va vb (ws m) (ws n) 1 w hA hB (ws_can m) (ws_can n) hm hn (.inl rfl) (by rw [ws_val, ws_val]; omega)
  rw [ws_val, ws_val] at hc
  have hc := hc.mono (R' := fun e w' => ∃ q, e = .returned q ∧ Own w' w.heap.size q (ws (m + n)) ∧ Below w.heap.size w w') (by
    rintro e w' ⟨v, o, rfl, h1, h2, h3, h4, h5⟩
    exact ⟨v, rfl, by rw [← ws_eq (h4 rfl) (n := m + n) (by rw [h2]; omega)]; exact h1, h5⟩)
  have HC := Lib.hid hc
  clear hc
  go_enter Tryz.func243, Tryz.ntmps243
  go_wp2_with fail
  refine HC.out.mono ?_
  rintro e w' ⟨v, rfl, h1, h5⟩
  go_wp2
  go_ret
  exact ⟨_, rfl, h1, h5⟩

set_option maxHeartbeats 400000 in
theorem na_minus (va vb : Value) (m n : Nat) (w : World) (hA : Rd w va (ws m)) (hB : Rd w vb (ws n)) (hm : (ws m).length ≤ 400000000) (hn : (ws n).length ≤ 400000000) (hle : n ≤ m) :
    Calls Tryz.prog 245 #[va, vb] w fun e w' => ∃ q, e = .returned q ∧ Own w' w.heap.size q (ws (m - n)) ∧ Below w.heap.size w w' := by
  have hc := na_merge va vb (ws m) (ws n) (-1) w hA hB (ws_can m) (ws_can n) hm hn (.inr rfl) (by rw [ws_val, ws_val]; omega)
  rw [ws_val, ws_val] at hc
  have HC := Lib.hid hc
  clear hc
  go_enter Tryz.func245, Tryz.ntmps245
  go_wp2_with fail
  refine HC.out.mono ?_
  rintro e w' ⟨v, o, rfl, h1, h2, h3, -, h5⟩
  obtain ⟨A', c', rfl, e2, e3, e4⟩ := h1.rd
  have H1 := Lib.hid (show Own w' w.heap.size (.slice A' (trimL o).length c') (ws (m - n)) by rw [← ws_trim h3 (n := m - n) (by rw [h2]; omega)]; exact h1.trim)
  have ht := Lib.hid (na_trim A' c' o w' e2 e3 e4)
  clear h1 h2 h3 HC e4
  go_wp2_with fail
  refine ht.out.mono ?_
  rintro e w' ⟨rfl, rfl⟩
  clear ht
  go_wp2
  go_ret
  exact ⟨_, rfl, H1.out, h5⟩
end Go.Proofs.YthkkdepppjiaeaaGreatDoor

/- The long division of words (after Knuth): the mathematics of one round. -/
namespace Go.Proofs.YthkkdepppjiaeaaGreatDoor

theorem mulL {x y z : Int} (h : x ≤ y) (hz : 0 ≤ z) : z * x ≤ z * y := Int.mul_le_mul_of_nonneg_left h hz
structure Lead (W V a b c v1 v2 P : Int) : Prop where
  p : 1 ≤ P
  w0 : ((a * 1000000000 + b) * 1000000000 + c) * P ≤ W
  w1 : W < ((a * 1000000000 + b) * 1000000000 + c + 1) * P
  d0 : (v1 * 1000000000 + v2) * P ≤ V
  d1 : V < (v1 * 1000000000 + v2 + 1) * P
  fit : W < V * 1000000000
  a0 : 0 ≤ a
  b0 : 0 ≤ b
  b1 : b < 1000000000
  c0 : 0 ≤ c
  c1 : c < 1000000000
  v20 : 0 ≤ v2
  v21 : v2 < 1000000000
  v10 : 500000000 ≤ v1
  v11 : v1 < 1000000000

theorem Lead.V0 {W V a b c v1 v2 P : Int} (h : Lead W V a b c v1 v2 P) : 0 < V := by
  have := h.d0; have := h.p; have := h.v10; have := h.v20
  have := mulL (show 1 ≤ v1 * 1000000000 + v2 by omega) (show 0 ≤ P by omega)
  grind
theorem Lead.W0 {W V a b c v1 v2 P : Int} (h : Lead W V a b c v1 v2 P) : 0 ≤ W := by
  have := h.w0; have := h.p; have := h.a0; have := h.b0; have := h.c0
  have := mulL (show 0 ≤ (a * 1000000000 + b) * 1000000000 + c by omega) (show 0 ≤ P by omega)
  grind
/-- a guess whose product with the leading words is too great is too great. -/
theorem Lead.big {W V a b c v1 v2 P g : Int} (h : Lead W V a b c v1 v2 P) (hg : 0 ≤ g) (hb : (a * 1000000000 + b) * 1000000000 + c < g * (v1 * 1000000000 + v2)) : W < g * V := by
  have h1 := mulL h.d0 hg
  have hp := h.p
  have h2 := mulL (show (a * 1000000000 + b) * 1000000000 + c + 1 ≤ g * (v1 * 1000000000 + v2) by omega) (show 0 ≤ P by omega)
  have h3 := h.w1
  generalize hS : v1 * 1000000000 + v2 = S at *
  generalize hT : (a * 1000000000 + b) * 1000000000 + c = T at *
  grind
theorem Lead.small {W V a b c v1 v2 P g : Int} (h : Lead W V a b c v1 v2 P) (hg : 1 ≤ g) (hg1 : g < 1000000000) (hb : g * (v1 * 1000000000 + v2) ≤ (a * 1000000000 + b) * 1000000000 + c) : (g - 1) * V ≤ W := by
  have h1 := mulL (Int.le_of_lt h.d1) (show 0 ≤ g - 1 by omega)
  have hp := h.p
  have h3 := h.w0
  have hv := h.v10
  have hv2 := h.v20
  have h2 := mulL (show (g - 1) * (v1 * 1000000000 + v2 + 1) ≤ (a * 1000000000 + b) * 1000000000 + c by
    have : g - 1 ≤ v1 * 1000000000 + v2 := by omega
    generalize v1 * 1000000000 + v2 = S at *
    grind) (show 0 ≤ P by omega)
  generalize hS : v1 * 1000000000 + v2 = S at *
  generalize hT : (a * 1000000000 + b) * 1000000000 + c = T at *
  grind
theorem Lead.top {W V a b c v1 v2 P : Int} (h : Lead W V a b c v1 v2 P) : a * 1000000000 + b ≤ v1 * 1000000000 + v2 := by
  have h0 := h.w0
  have h1 := h.d1
  have h2 := h.fit
  have hp := h.p
  have hc := h.c0
  generalize hT : a * 1000000000 + b = T at *
  generalize hS : v1 * 1000000000 + v2 = S at *
  by_cases hts : T ≤ S
  · exact hts
  · have h3 := mulL (show (S + 1) * 1000000000 ≤ T * 1000000000 + c by omega) (show 0 ≤ P by omega)
    grind

/-- The guess while it is made. -/
structure Gs (W V a b v1 g r : Int) : Prop where
  hi : W < (g + 1) * V
  eq : a * 1000000000 + b = g * v1 + r
  r0 : 0 ≤ r
  r1 : r < 2000000000
  g0 : 0 ≤ g
  g1 : g ≤ 1000000002
/-- The guess that was made. -/
structure Gf (W V g : Int) : Prop where
  lo : (g - 1) * V ≤ W
  hi : W < (g + 1) * V
  g0 : 0 ≤ g
  g1 : g < 1000000000

theorem nonneg_of_lt {W V g : Int} (hV : 0 < V) (hW : 0 ≤ W) (h : W < (g + 1) * V) : 0 ≤ g := by
  by_cases hg : 0 ≤ g
  · exact hg
  · have := mulL (show g + 1 ≤ 0 by omega) (show 0 ≤ V by omega)
    grind

theorem Gs.start {W V a b c v1 v2 P : Int} (h : Lead W V a b c v1 v2 P) : Gs W V a b v1 ((a * 1000000000 + b) / v1) ((a * 1000000000 + b) % v1) := by
  have ht := h.top
  have hv := h.v10
  have hv1 := h.v11
  have hv2 := h.v20
  have hv3 := h.v21
  have ha := h.a0
  have hb := h.b0
  have hc := h.c1
  have em := Int.ediv_mul_add_emod (a * 1000000000 + b) v1
  have r0 := Int.emod_nonneg (a * 1000000000 + b) (show v1 ≠ 0 by omega)
  have r1 := Int.emod_lt_of_pos (a * 1000000000 + b) (show 0 < v1 by omega)
  have q0 : 0 ≤ (a * 1000000000 + b) / v1 := Int.ediv_nonneg (by omega) (by omega)
  refine ⟨?_, by omega, r0, by omega, q0, ?_⟩
  · apply h.big (by omega)
    generalize hq : (a * 1000000000 + b) / v1 = q at *
    generalize hr : (a * 1000000000 + b) % v1 = r at *
    rw [← em]
    have := mulL hv2 (show 0 ≤ q + 1 by omega)
    grind
  · have : (a * 1000000000 + b) / v1 < 1000000003 := by
      apply Int.ediv_lt_of_lt_mul (by omega)
      omega
    omega
theorem Gs.again {W V a b c v1 v2 P g r : Int} (h : Lead W V a b c v1 v2 P) (hG : Gs W V a b v1 g r) (hr : r < 1000000000) (ht : 1000000000 ≤ g ∨ r * 1000000000 + c < g * v2) : Gs W V a b v1 (g - 1) (r + v1) ∧ 1 ≤ g := by
  have hv := h.v10
  have hv1 := h.v11
  have hlt : W < g * V := by
    rcases ht with ht | ht
    · have := mulL ht (show 0 ≤ V from Int.le_of_lt h.V0)
      have := h.fit
      grind
    · apply h.big hG.g0
      have := hG.eq
      rw [this]
      grind
  have hg : 0 ≤ g - 1 := nonneg_of_lt h.V0 h.W0 (by rw [show g - 1 + 1 = g by omega]; exact hlt)
  refine ⟨⟨by rw [show g - 1 + 1 = g by omega]; exact hlt, ?_, ?_, ?_, hg, ?_⟩, by omega⟩
  · have := hG.eq; grind
  · have := hG.r0; omega
  · omega
  · have := hG.g1; omega
theorem Gs.stop {W V a b c v1 v2 P g r : Int} (h : Lead W V a b c v1 v2 P) (hG : Gs W V a b v1 g r) (ht : g < 1000000000 ∧ g * v2 ≤ r * 1000000000 + c ∨ 1000000000 ≤ r) : Gf W V g := by
  have e := hG.eq
  have hv := h.v10
  have htop := h.top
  have hv2 := h.v21
  have hv20 := h.v20
  have hc := h.c0
  have hg1 : g < 1000000000 := by
    rcases ht with ht | ht
    · exact ht.1
    · by_cases hg : g < 1000000000
      · exact hg
      · have := mulL (show 1000000000 ≤ g by omega) (show 0 ≤ v1 by omega)
        have e2 : v1 * g = g * v1 := Int.mul_comm _ _
        omega
  have hle : g * v2 ≤ r * 1000000000 + c := by
    rcases ht with ht | ht
    · exact ht.2
    · have := mulL (show v2 ≤ 1000000000 by omega) hG.g0
      omega
  refine ⟨?_, hG.hi, hG.g0, hg1⟩
  by_cases hg0 : g = 0
  · have := h.V0
    have := h.W0
    subst hg0
    omega
  · apply h.small (by have := hG.g0; omega) hg1
    rw [e]
    grind

theorem drop_cons (l : List Int) (i : Nat) (h : i < l.length) : l.drop i = l[i]?.getD 0 :: l.drop (i + 1) := by
  rw [List.getElem?_eq_getElem h, Option.getD_some, ← List.drop_eq_getElem_cons h]
theorem wval_split (l : List Int) (i : Nat) (h : i ≤ l.length) : wval l = wval (l.take i) + bpow i * wval (l.drop i) := by
  have := wval_append (l.take i) (l.drop i)
  rw [List.take_append_drop] at this
  rw [this]
  simp [Nat.min_eq_left h]
theorem lead_of {u v : List Int} {j m : Nat} (hu : WOk u) (hv : WOk v) (hk : v.length = m + 2) (hl : j + m + 2 < u.length) (hfit : wval (u.drop j) < wval v * 1000000000) (htop : 500000000 ≤ v[m + 1]?.getD 0) :
    Lead (wval (u.drop j)) (wval v) (u[j + m + 2]?.getD 0) (u[j + m + 1]?.getD 0) (u[j + m]?.getD 0) (v[m + 1]?.getD 0) (v[m]?.getD 0) (bpow m) ∧ wval (u.drop (j + m + 3)) = 0 := by
  have eW : wval (u.drop j) = wval ((u.drop j).take m) + bpow m * (u[j + m]?.getD 0 + 1000000000 * (u[j + m + 1]?.getD 0 + 1000000000 * (u[j + m + 2]?.getD 0 + 1000000000 * wval (u.drop (j + m + 3))))) := by
    rw [wval_split (u.drop j) m (by simp; omega), List.drop_drop, drop_cons u (j + m) (by omega), drop_cons u (j + m + 1) (by omega), drop_cons u (j + m + 1 + 1) (by omega)]
    rfl
  have eV : wval v = wval (v.take m) + bpow m * (v[m]?.getD 0 + 1000000000 * v[m + 1]?.getD 0) := by
    rw [wval_split v m (by omega), drop_cons v m (by omega), drop_cons v (m + 1) (by omega), List.drop_of_length_le (by omega)]
    simp [wval]
  have hWl := wval_lt (l := (u.drop j).take m) ((hu.drop j).take m)
  have hWl0 := wval_nonneg (l := (u.drop j).take m) ((hu.drop j).take m)
  have hVl := wval_lt (l := v.take m) (hv.take m)
  have hVl0 := wval_nonneg (l := v.take m) (hv.take m)
  have hz0 := wval_nonneg (hu.drop (j + m + 3))
  rw [show ((u.drop j).take m).length = m by simp; omega] at hWl
  rw [show (v.take m).length = m by simp; omega] at hVl
  have ga := hu.getD (j + m + 2)
  have gb := hu.getD (j + m + 1)
  have gc := hu.getD (j + m)
  have g1 := hv.getD (m + 1)
  have g2 := hv.getD m
  simp only [List.getD_eq_getElem?_getD] at ga gb gc g1 g2
  have hp := bpow_pos m
  generalize u[j + m + 2]?.getD 0 = a at *
  generalize u[j + m + 1]?.getD 0 = b at *
  generalize u[j + m]?.getD 0 = c at *
  generalize v[m + 1]?.getD 0 = v1 at *
  generalize v[m]?.getD 0 = v2 at *
  generalize wval (u.drop j) = W at *
  generalize wval v = V at *
  generalize wval ((u.drop j).take m) = wl at *
  generalize wval (v.take m) = vl at *
  generalize bpow m = P at *
  generalize wval (u.drop (j + m + 3)) = z at *
  have hz : z = 0 := by
    by_cases h : z = 0
    · exact h
    · exfalso
      have h1 := mulL (show 1000000000 * 1000000000 * 1000000000 ≤ c + 1000000000 * (b + 1000000000 * (a + 1000000000 * z)) by omega) (show 0 ≤ P by omega)
      have h2 := mulL (show v2 + 1000000000 * v1 + 1 ≤ 1000000000 * 1000000000 by omega) (show 0 ≤ P by omega)
      grind
  subst hz
  refine ⟨⟨hp, ?_, ?_, ?_, ?_, hfit, ga.1, gb.1, gb.2, gc.1, gc.2, g2.1, g2.2, htop, g1.2⟩, rfl⟩
  · rw [eW]; grind
  · rw [eW]; grind
  · rw [eV]; grind
  · rw [eV]; grind

/-- g times the divisor has been taken away from i words. -/
structure SubI (u0 u v : List Int) (g : Int) (j i : Nat) (c b : Int) : Prop where
  ok : WOk u
  len : u.length = u0.length
  eq : wval u = wval u0 - g * bpow j * wval (v.take i) + (c + b) * bpow (j + i)
  rest : ∀ t : Nat, j + i ≤ t → u[t]?.getD 0 = u0[t]?.getD 0
  low : u.take j = u0.take j
  c0 : 0 ≤ c
  c1 : c < 1000000000
  b0 : b = 0 ∨ b = 1
theorem SubI.start {u v : List Int} (g : Int) (j : Nat) (h : WOk u) : SubI u u v g j 0 0 0 :=
  ⟨h, rfl, by simp [wval], fun _ _ => rfl, rfl, by decide, by decide, .inl rfl⟩
theorem sub_fit {g x c : Int} (hg0 : 0 ≤ g) (hg1 : g < 1000000000) (hx0 : 0 ≤ x) (hx1 : x < 1000000000) (hc0 : 0 ≤ c) (hc1 : c < 1000000000) :
    0 ≤ g * x ∧ g * x ≤ 1000000000000000000 ∧ 0 ≤ g * x + c ∧ g * x + c < 1000000000000000000 := by
  have := mul_lt hg0 hg1 hx0 hx1
  generalize g * x = p at *
  omega
theorem SubI.step {u0 u v : List Int} {g : Int} {j i : Nat} {c b : Int} (h : SubI u0 u v g j i c b) (hg0 : 0 ≤ g) (hg1 : g < 1000000000) (hv : WOk v) (hi : i < v.length) (hl : j + i < u0.length)
    {r b' : Int} (hr0 : 0 ≤ r) (hr1 : r < 1000000000) (hb' : b' = 0 ∨ b' = 1)
    (hr : r - 1000000000 * b' = u[j + i]?.getD 0 - (g * v[i]?.getD 0 + c) % 1000000000 - b) :
    SubI u0 (u.set (j + i) r) v g j (i + 1) ((g * v[i]?.getD 0 + c) / 1000000000) b' := by
  have hx := hv.getD i
  rw [List.getD_eq_getElem?_getD] at hx
  have hf := sub_fit hg0 hg1 hx.1 hx.2 h.c0 h.c1
  have hlen := h.len
  have he := h.eq
  have ht := wval_take_succ v i hi
  have hru := h.rest (j + i) (Nat.le_refl _)
  refine ⟨h.ok.set _ ⟨hr0, hr1⟩, by simp [hlen], ?_, fun t ht => ?_, ?_, by omega, by omega, hb'⟩
  · rw [wval_set _ _ _ (by omega), he, ht, show j + (i + 1) = (j + i) + 1 by omega, bpow_succ, bpow_add]
    generalize v[i]?.getD 0 = x at *
    generalize u[j + i]?.getD 0 = y at *
    have em := Int.ediv_mul_add_emod (g * x + c) 1000000000
    generalize (g * x + c) / 1000000000 = q at *
    generalize (g * x + c) % 1000000000 = s at *
    generalize bpow j = Pj at *
    generalize bpow i = Pi at *
    have e1 : r - y + c + b + g * x = (q + b') * 1000000000 := by omega
    have e2 : Pj * Pi * (r - y + c + b + g * x) = Pj * Pi * ((q + b') * 1000000000) := by rw [e1]
    grind
  · rw [List.getElem?_set_ne (by omega)]
    exact h.rest t (by omega)
  · rw [List.take_set, List.set_eq_of_length_le (by simp; omega)]
    exact h.low

/-- The divisor has been added back to i words. -/
structure AddI (u0 u v : List Int) (j i : Nat) (p : Int) : Prop where
  ok : WOk u
  len : u.length = u0.length
  eq : wval u = wval u0 + bpow j * wval (v.take i) - p * bpow (j + i)
  rest : ∀ t : Nat, j + i ≤ t → u[t]?.getD 0 = u0[t]?.getD 0
  low : u.take j = u0.take j
  p0 : 0 ≤ p
  p1 : p ≤ 1
theorem AddI.start {u v : List Int} (j : Nat) (h : WOk u) : AddI u u v j 0 0 :=
  ⟨h, rfl, by simp [wval], fun _ _ => rfl, rfl, by decide, by decide⟩
theorem AddI.step {u0 u v : List Int} {j i : Nat} {p : Int} (h : AddI u0 u v j i p) (hv : WOk v) (hi : i < v.length) (hl : j + i < u0.length) :
    AddI u0 (u.set (j + i) ((p + (u[j + i]?.getD 0 + v[i]?.getD 0)) % 1000000000)) v j (i + 1) ((p + (u[j + i]?.getD 0 + v[i]?.getD 0)) / 1000000000) := by
  have hx := hv.getD i
  have hy := h.ok.getD (j + i)
  rw [List.getD_eq_getElem?_getD] at hx hy
  have hlen := h.len
  have he := h.eq
  have ht := wval_take_succ v i hi
  have hp0 := h.p0
  have hp1 := h.p1
  refine ⟨h.ok.set _ ⟨by omega, by omega⟩, by simp [hlen], ?_, fun t ht => ?_, ?_, by omega, by omega⟩
  · rw [wval_set _ _ _ (by omega), he, ht, show j + (i + 1) = (j + i) + 1 by omega, bpow_succ, bpow_add]
    generalize v[i]?.getD 0 = x at *
    generalize u[j + i]?.getD 0 = y at *
    have em := Int.ediv_mul_add_emod (p + (y + x)) 1000000000
    generalize (p + (y + x)) / 1000000000 = q at *
    generalize (p + (y + x)) % 1000000000 = s at *
    generalize bpow j = Pj at *
    generalize bpow i = Pi at *
    have e1 : s - y = p + x - q * 1000000000 := by omega
    have e2 : Pj * Pi * (s - y) = Pj * Pi * (p + x - q * 1000000000) := by rw [e1]
    grind
  · rw [List.getElem?_set_ne (by omega)]
    exact h.rest t (by omega)
  · rw [List.take_set, List.set_eq_of_length_le (by simp; omega)]
    exact h.low

/-- The words from j on behind the subtraction. -/
theorem window {u0 u v : List Int} {g e : Int} {j k : Nat} (len : u.length = u0.length) (hl : j + k < u.length)
    (eq : wval u = wval u0 - g * bpow j * wval v + e * bpow (j + k)) (rest : ∀ t : Nat, j + k ≤ t → u[t]?.getD 0 = u0[t]?.getD 0) (low : u.take j = u0.take j) (hz : wval (u0.drop (j + k + 1)) = 0) :
    wval (u0.drop j) - g * wval v = wval ((u.drop j).take k) + bpow k * (u0[j + k]?.getD 0 - e) := by
  have e1 := wval_split u j (by omega)
  have e2 := wval_split u0 j (by omega)
  have e3 := wval_split (u.drop j) k (by simp; omega)
  rw [List.drop_drop, drop_cons u (j + k) hl] at e3
  have hz2 : wval (u.drop (j + k + 1)) = 0 := by
    have : u.drop (j + k + 1) = u0.drop (j + k + 1) := by
      apply List.ext_getElem?
      intro t
      rw [List.getElem?_drop, List.getElem?_drop]
      have h1 := rest (j + k + 1 + t) (by omega)
      by_cases ht : j + k + 1 + t < u.length
      · rw [List.getElem?_eq_getElem ht, List.getElem?_eq_getElem (by omega)] at h1 ⊢
        simpa using h1
      · rw [List.getElem?_eq_none (by omega), List.getElem?_eq_none (by omega)]
    rw [this]; exact hz
  simp only [wval] at e3
  rw [hz2, rest (j + k) (Nat.le_refl _)] at e3
  rw [low] at e1
  have hp := bpow_pos j
  rw [bpow_add] at eq
  generalize wval (u0.take j) = a at *
  generalize wval ((u.drop j).take k) = kw at *
  generalize wval (u.drop j) = d at *
  generalize wval (u0.drop j) = d0 at *
  generalize bpow j = Pj at *
  have : Pj * (d0 - g * wval v) = Pj * (kw + bpow k * (u0[j + k]?.getD 0 - e)) := by
    have e4 : kw + bpow k * (u0[j + k]?.getD 0 - e) = d - bpow k * e := by rw [e3]; grind
    rw [e4]
    grind
  exact Int.eq_of_mul_eq_mul_left (by omega) this

theorem last_of {R kw P V last : Int} (h : R = kw + P * last) (h0 : 0 ≤ kw) (h1 : kw < P) (hV : V < P) (hR0 : -V ≤ R) (hR1 : R < V) (hP : 1 ≤ P) :
    (0 ≤ R → last = 0) ∧ (R < 0 → last = -1) := by
  have a1 : last < 1 := by
    by_cases hl : last < 1
    · exact hl
    · have := mulL (show 1 ≤ last by omega) (show 0 ≤ P by omega); omega
  have a2 : -2 < last := by
    by_cases hl : -2 < last
    · exact hl
    · have := mulL (show last ≤ -2 by omega) (show 0 ≤ P by omega); omega
  rcases (show last = 0 ∨ last = -1 by omega) with rfl | rfl
  · exact ⟨fun _ => rfl, fun h => by omega⟩
  · exact ⟨fun h => by omega, fun _ => rfl⟩

/-- The division between two rounds: the words from jn on are done. -/
structure DivO (u q v : List Int) (U : Int) (jn : Nat) : Prop where
  uok : WOk u
  qok : WOk q
  eq : wval u + wval v * (bpow jn * wval (q.drop jn)) = U
  win : wval (u.drop jn) < wval v
  low : ∀ t : Nat, t < jn → q[t]?.getD 0 = 0

theorem DivO.fit {u q v : List Int} {U : Int} {j : Nat} (h : DivO u q v U (j + 1)) (hj : j < u.length) : wval (u.drop j) < wval v * 1000000000 := by
  have h1 := h.win
  have h2 := h.uok.getD j
  rw [List.getD_eq_getElem?_getD] at h2
  rw [drop_cons u j hj]
  simp only [wval]
  omega
/-- One round, said of what it has done to the words. -/
theorem DivO.round {u0 u q v : List Int} {U g : Int} {j k : Nat} (h : DivO u0 q v U (j + 1)) (hG : g * wval v ≤ wval (u0.drop j) ∧ wval (u0.drop j) < (g + 1) * wval v) (hg0 : 0 ≤ g) (hg1 : g < 1000000000)
    (ok : WOk u) (len : u.length = u0.length) (hl : j + k < u.length) (low : u.take j = u0.take j) (hq : j < q.length)
    (eq : wval u = wval u0 - g * bpow j * wval v) : DivO u (q.set j g) v U j := by
  have e1 := wval_split u j (by omega)
  have e2 := wval_split u0 j (by omega)
  rw [low] at e1
  refine ⟨ok, h.qok.set _ ⟨hg0, hg1⟩, ?_, ?_, fun t ht => ?_⟩
  · have hq1 : (q.set j g).drop j = g :: q.drop (j + 1) := by
      rw [List.drop_eq_getElem_cons (by simp; omega), List.getElem_set_self, List.drop_set_of_lt (by omega)]
    have he := h.eq
    rw [hq1]
    simp only [wval]
    rw [bpow_succ] at he
    rw [eq, ← he]
    grind
  · have hp := bpow_pos j
    have : wval (u.drop j) = wval (u0.drop j) - g * wval v := by
      have : bpow j * wval (u.drop j) = bpow j * (wval (u0.drop j) - g * wval v) := by grind
      exact Int.eq_of_mul_eq_mul_left (by omega) this
    rw [this]
    have := hG.2
    grind
  · rw [List.getElem?_set_ne (by omega)]
    exact h.low t (by omega)

theorem half_top (t : Int) (h0 : 1 ≤ t) (h1 : t < 1000000000) : 500000000 ≤ t * (1000000000 / (t + 1)) ∧ (t + 1) * (1000000000 / (t + 1)) ≤ 1000000000 ∧ 1 ≤ 1000000000 / (t + 1) ∧ 1000000000 / (t + 1) ≤ 500000000 := by
  have em := Int.ediv_mul_add_emod 1000000000 (t + 1)
  have r0 := Int.emod_nonneg 1000000000 (show t + 1 ≠ 0 by omega)
  have r1 := Int.emod_lt_of_pos 1000000000 (show 0 < t + 1 by omega)
  generalize 1000000000 / (t + 1) = f at *
  generalize (1000000000 : Int) % (t + 1) = r at *
  have hf : 1 ≤ f := by
    by_cases hf : 1 ≤ f
    · exact hf
    · have := mulL (show f ≤ 0 by omega) (show 0 ≤ t + 1 by omega)
      grind
  refine ⟨?_, by grind, hf, ?_⟩
  · by_cases h2 : 500000000 ≤ t
    · have := mulL hf (show 0 ≤ t by omega)
      omega
    · -- 2 t <= 10^9 - 2
      have h3 := mulL (show 0 ≤ 1000000000 - 2 * t - 2 by omega) (show 0 ≤ t - 1 by omega)
      have h4 : 2 * (t * f) * (t + 1) ≥ (t + 1) * (1000000000 - 1) := by
        have : f * (t + 1) ≥ 1000000000 - t := by omega
        have h5 := mulL this (show 0 ≤ 2 * t by omega)
        grind
      have h6 : 1000000000 - 1 ≤ 2 * (t * f) := by
        by_cases hh : 1000000000 - 1 ≤ 2 * (t * f)
        · exact hh
        · have h7 := mulL (show 2 * (t * f) ≤ 1000000000 - 2 by omega) (show 0 ≤ t + 1 by omega)
          grind
      omega
  · have := mulL (show 2 ≤ t + 1 by omega) (show 0 ≤ f by omega)
    grind

/-- The divisor times the factor has as many words, and a great first one. -/
theorem norm_div {n k : Nat} {f : Int} (hk : (ws n).length = k + 1) (hf : f = 1000000000 / ((ws n)[k]?.getD 0 + 1)) :
    1 ≤ f ∧ f ≤ 500000000 ∧ (ws (n * f.toNat)).length = k + 1 ∧ 500000000 ≤ (ws (n * f.toNat))[k]?.getD 0 := by
  have hc := ws_can n
  have hv := ws_val n
  have g := hc.1.getD k
  rw [List.getD_eq_getElem?_getD] at g
  have hw := wval_split (ws n) k (by omega)
  rw [drop_cons (ws n) k (by omega), List.drop_of_length_le (by omega)] at hw
  simp only [wval] at hw
  have hl := wval_lt (hc.1.take k)
  have hl0 := wval_nonneg (hc.1.take k)
  rw [show ((ws n).take k).length = k by simp; omega] at hl
  have hlow := hc.low (by intro e; rw [e] at hk; simp at hk)
  rw [hk, Nat.add_sub_cancel] at hlow
  have hp := bpow_pos k
  have ht1 : 1 ≤ (ws n)[k]?.getD 0 := by
    by_cases h : 1 ≤ (ws n)[k]?.getD 0
    · exact h
    · rw [show (ws n)[k]?.getD 0 = 0 by omega] at hw
      omega
  have hh := half_top _ ht1 g.2
  rw [← hf] at hh
  generalize (ws n)[k]?.getD 0 = t at *
  generalize wval ((ws n).take k) = lo at *
  have hfn : ((f.toNat : Nat) : Int) = f := by omega
  have hmf : ((n * f.toNat : Nat) : Int) = n * f := by rw [Int.natCast_mul, hfn]
  have hlen : (ws (n * f.toNat)).length = k + 1 := by
    apply Nat.le_antisymm
    · rw [ws_len_iff, hmf, bpow_succ, ← hv, hw]
      have h1 := mulL hh.2.1 (show 0 ≤ bpow k by omega)
      have h2 := mulL (show lo + bpow k * (t + 1000000000 * 0) + 1 ≤ bpow k * (t + 1) by grind) (show 0 ≤ f by omega)
      grind
    · have := hc.len_le (ws_can (n * f.toNat)) (by
        rw [ws_val, ws_val, hmf]
        have := mulL hh.2.2.1 (show (0 : Int) ≤ n by omega)
        omega)
      omega
  refine ⟨hh.2.2.1, hh.2.2.2, hlen, ?_⟩
  have hc2 := ws_can (n * f.toNat)
  have hw2 := wval_split (ws (n * f.toNat)) k (by omega)
  rw [drop_cons _ k (by omega), List.drop_of_length_le (by omega), ws_val, hmf, ← hv, hw] at hw2
  simp only [wval] at hw2
  have hl2 := wval_lt (hc2.1.take k)
  rw [show ((ws (n * f.toNat)).take k).length = k by simp; omega] at hl2
  generalize (ws (n * f.toNat))[k]?.getD 0 = s at *
  generalize wval ((ws (n * f.toNat)).take k) = lo2 at *
  have h3 : t * f < s + 1 := by
    by_cases h4 : t * f < s + 1
    · exact h4
    · have h5 := mulL (show s + 1 ≤ t * f by omega) (show 0 ≤ bpow k by omega)
      have h6 := mulL hl0 (show 0 ≤ f by omega)
      grind
  omega

theorem DivO.start {a b : Nat} {k L : Nat} (hk : (ws b).length = k + 1) (hL : (ws a).length + 1 = L) (hlt : k + 1 < L) : DivO (ws a ++ [0]) (List.replicate (L - (k + 1)) 0) (ws b) a (L - (k + 1)) := by
  have hw := (ws_can a).1
  refine ⟨hw.append (fun x hx => by rw [List.mem_singleton] at hx; subst hx; decide), WOk.replicate _, ?_, ?_, fun t ht => by simp [ht]⟩
  · rw [List.drop_of_length_le (by simp), wval_snoc, ws_val]; simp [wval]
  · have hlow := (ws_can b).low (by intro e; rw [e] at hk; simp at hk)
    rw [hk, Nat.add_sub_cancel] at hlow
    rw [List.drop_append_of_le_length (by omega), wval_snoc]
    have := wval_lt (hw.drop (L - (k + 1)))
    rw [show ((ws a).drop (L - (k + 1))).length = k by simp; omega] at this
    omega

theorem DivO.done {n m f : Nat} {u q : List Int} (h : DivO u q (ws (m * f)) (n * f : Nat) 0) (hf : 0 < f) :
    trimL q = ws (n / m) ∧ trimL (u.take (ws (m * f)).length) = ws (n % m * f) := by
  have he := h.eq
  have hw := h.win
  rw [List.drop_zero, ws_val] at hw
  rw [List.drop_zero, ws_val, bpow_zero] at he
  have hq0 := wval_nonneg h.qok
  have hu0 := wval_nonneg h.uok
  obtain ⟨Q, hQ⟩ := Int.eq_ofNat_of_zero_le hq0
  obtain ⟨R, hR⟩ := Int.eq_ofNat_of_zero_le hu0
  rw [hQ, hR] at he
  rw [hR] at hw
  have e1 : R + m * f * Q = n * f := by
    have : ((R + m * f * Q : Nat) : Int) = (n * f : Nat) := by
      rw [← he]; simp
    exact Int.ofNat.inj this
  have e2 : R < m * f := by omega
  have e3 : n * f / (m * f) = n / m := Nat.mul_div_mul_right n m hf
  have e4 : n * f % (m * f) = n % m * f := Nat.mul_mod_mul_right f n m
  have e5 : n * f / (m * f) = Q := by
    rw [← e1, Nat.add_mul_div_left _ _ (by omega), Nat.div_eq_of_lt e2, Nat.zero_add]
  have e6 : n * f % (m * f) = R := by
    rw [← e1, Nat.add_mul_mod_self_left, Nat.mod_eq_of_lt e2]
  refine ⟨ws_trim h.qok (by rw [hQ, ← e3, e5]), ws_trim (h.uok.take _) ?_⟩
  have hlt : wval u < bpow (ws (m * f)).length := by
    have := wval_lt (ws_can (m * f)).1
    rw [ws_val] at this
    omega
  rw [← e4, e6, ← hR]
  by_cases hl : u.length ≤ (ws (m * f)).length
  · rw [List.take_of_length_le hl]
  · have hs := wval_split u (ws (m * f)).length (by omega)
    have hd := wval_nonneg (h.uok.drop (ws (m * f)).length)
    have ht := wval_nonneg (h.uok.take (ws (m * f)).length)
    have hp := bpow_pos (ws (m * f)).length
    have : wval (u.drop (ws (m * f)).length) = 0 := by
      by_cases hz : wval (u.drop (ws (m * f)).length) = 0
      · exact hz
      · have := mulL (show 1 ≤ wval (u.drop (ws (m * f)).length) by omega) (show 0 ≤ bpow (ws (m * f)).length by omega)
        omega
    rw [this] at hs
    omega
end Go.Proofs.YthkkdepppjiaeaaGreatDoor

/- Walks of the program's package natural: divide, the short cases. -/
namespace Go.Proofs.YthkkdepppjiaeaaGreatDoor
open Go.RowKit

/-- What divide hands back. -/
def DivPost (n m : Nat) (w : World) (e : Ending) (w' : World) : Prop :=
  ∃ q r, e = .returned (.tuple #[q, r]) ∧ Rd w' q (ws (n / m)) ∧ Rd w' r (ws (n % m)) ∧ Below w.heap.size w w'

theorem cmpI_neg {a b : Int} : cmpI a b < 0 ↔ a < b := by
  unfold cmpI
  by_cases h : a < b
  · simp [h]
  · by_cases h2 : b < a <;> simp [h, h2]

theorem below_drewN {w w' : World} {B : Nat} (h : Below B w w') (n : Nat) : Below B w (w'.drewN n) := by
  have h1 := h.os
  exact ⟨h1, h.tape, h.output, h.size, h.block⟩

theorem below_seq {w w1 w2 : World} (h : Below w.heap.size w w1) (k : Below w1.heap.size w1 w2) : Below w.heap.size w w2 := h.trans (k.mono h.size)

theorem na_compareB (va vb : Value) (a b : Nat) (w : World) (hA : Rd w va (ws a)) (hB : Rd w vb (ws b)) :
    Calls Tryz.prog 244 #[va, vb] w fun e w' => e = .returned (.int .i64 (cmpI a b)) ∧ Below w.heap.size w w' := by
  have := na_compare va vb (ws a) (ws b) w hA hB (ws_can a) (ws_can b)
  rw [ws_val, ws_val] at this
  exact this.mono fun e w' ⟨h1, n, h2⟩ => ⟨h1, by rw [h2]; exact below_drewN (Below.refl _ _) n⟩
theorem na_smallB (v : Value) (n : Nat) (w : World) (hv : Rd w v (ws n)) (hl : (ws n).length ≤ 1000000000) :
    Calls Tryz.prog 246 #[v] w fun e w' =>
      e = .returned (.tuple #[.int .u64 (if (ws n).length ≤ 2 then n else 0), .bool (decide ((ws n).length ≤ 2))]) ∧ Below w.heap.size w w' := by
  obtain ⟨A, c, rfl, a1, a2, a3⟩ := hv
  have := na_small A c (ws n) w (by unfold maxLen; omega) a3 (ws_can n).1
  rw [ws_val] at this
  exact this.mono fun e w' ⟨h1, n, h2⟩ => ⟨h1, by rw [h2]; exact below_drewN (Below.refl _ _) n⟩

set_option maxRecDepth 100000 in
set_option maxHeartbeats 2000000 in
theorem na_divide_less (va vb : Value) (n m : Nat) (w : World) (hA : Rd w va (ws n)) (hB : Rd w vb (ws m)) (hlt : n < m) :
    Calls Tryz.prog 248 #[va, vb] w (DivPost n m w) := by
  have hcmp := Lib.hid (na_compareB va vb n m w hA hB)
  have hneg : cmpI (n : Int) m < 0 := cmpI_neg.2 (by omega)
  have HA := Lib.hid hA
  have HE : Hid (n / m = 0 ∧ n % m = n) := Lib.hid ⟨Nat.div_eq_of_lt hlt, Nat.mod_eq_of_lt hlt⟩
  clear hA hB
  generalize cmpI (n : Int) m = x at *
  go_enter Tryz.func248, Tryz.ntmps248
  go_wp2_with fail
  refine hcmp.out.mono ?_
  rintro e w1 ⟨rfl, hb1⟩
  go_wp2
  go_ret2
  refine ⟨_, _, rfl, ?_, ?_, hb1⟩
  · rw [HE.out.1, ws_zero]; exact ⟨none, 0, rfl, Nat.le_refl _, by unfold maxLen; omega, Row.nil _ _⟩
  · rw [HE.out.2]; exact HA.out.below hb1

theorem ws_small {n : Nat} (h : (ws n).length ≤ 2) : n < 1000000000000000000 := by
  have := (ws_len_iff (n := n) (k := 2)).1 h
  have e : bpow 2 = 1000000000000000000 := by decide
  omega

def Sm (x : Int) (k : Nat) : Prop := 0 ≤ x ∧ x < 1000000000000000000 ∧ x.toNat = k
theorem div_bounds {n m : Nat} (bn : n < 1000000000000000000) :
    Sm (IntKind.u64.wrap ((n : Int) / m)) (n / m) ∧ Sm ((n : Int) / m) (n / m) ∧ Sm (IntKind.u64.wrap ((n : Int) % m)) (n % m) ∧ Sm ((n : Int) % m) (n % m) ∧ Sm (IntKind.u64.wrap ((n : Int).tmod m)) (n % m) ∧ Sm ((n : Int).tmod m) (n % m) := by
  have e1 : (n : Int) / m = (n / m : Nat) := by simp
  have e2 : (n : Int).tmod m = (n % m : Nat) := by rw [Int.ofNat_tmod]
  have e3 : (n : Int) % m = (n % m : Nat) := by simp
  have h1 := Nat.div_le_self n m
  have h2 := Nat.mod_le n m
  rw [e1, e2, e3]
  unfold Sm
  generalize n / m = q at *
  generalize n % m = r at *
  rw [IntWalk.u64_in _ (by omega), IntWalk.u64_in _ (by omega)]
  omega
/-- The contract of 'of' at a quotient or a remainder. -/
theorem of_sm {k : Nat} (x : Int) (w : World) (h : Sm x k) :
    Calls Tryz.prog 247 #[.int .u64 x] w fun e w' => ∃ v, e = .returned v ∧ Hid (Own w' w.heap.size v (ws k)) ∧ Hid (Below w.heap.size w w') := by
  have := na_of x w h.1 h.2.1
  rw [h.2.2] at this
  exact this
theorem div_fin {n m : Nat} {w w3 wA wB : World} {vA vB : Value} (h1 : Below w.heap.size w w3) (hA : Hid (Own wA w3.drew.heap.size vA (ws (n / m)))) (hbA : Hid (Below w3.drew.heap.size w3.drew wA))
    (hB : Hid (Own wB wA.heap.size vB (ws (n % m)))) (hbB : Hid (Below wA.heap.size wA wB)) : DivPost n m w (.returned (.tuple #[vA, vB])) wB :=
  ⟨_, _, rfl, (hA.out.below hbB.out).rd, hB.out.rd, below_seq (below_seq h1.drew hbA.out) hbB.out⟩

set_option maxRecDepth 100000 in
set_option maxHeartbeats 2000000 in
theorem na_divide_small (va vb : Value) (n m : Nat) (w : World) (hA : Rd w va (ws n)) (hB : Rd w vb (ws m)) (hle : m ≤ n) (hm : 0 < m) (h2 : (ws n).length ≤ 2) :
    Calls Tryz.prog 248 #[va, vb] w (DivPost n m w) := by
  have hcmp := Lib.hid (na_compareB va vb n m w hA hB)
  have hneg : ¬ cmpI (n : Int) m < 0 := fun h => by have := cmpI_neg.1 h; omega
  have h2m : (ws m).length ≤ 2 := Nat.le_trans ((ws_can m).len_le (ws_can n) (by rw [ws_val, ws_val]; omega)) h2
  have bn := ws_small h2
  have bm := ws_small h2m
  have SA := fun W hW => na_smallB va n W hW (by omega)
  have SB := fun W hW => na_smallB vb m W hW (by omega)
  simp only [if_pos h2, if_pos h2m, decide_eq_true h2, decide_eq_true h2m] at SA SB
  have SA := Lib.hid SA
  have SB := Lib.hid SB
  have RA := Lib.hid hA
  have RB := Lib.hid hB
  have e1 : (((m : Nat) : Int) != 0) = true := by rw [bne_iff_ne]; omega
  clear hA hB h2 h2m
  generalize cmpI (n : Int) m = x at *
  go_enter Tryz.func248, Tryz.ntmps248
  go_wp2_with fail
  refine hcmp.out.mono ?_
  rintro e w1 ⟨rfl, hb1⟩
  go_wp2_with fail
  refine (SA.out _ (RA.out.below hb1)).mono ?_
  rintro e w2 ⟨rfl, hb2⟩
  have hb2 := below_seq hb1 hb2
  go_wp2_with fail
  refine (SB.out _ (RB.out.below hb2)).mono ?_
  rintro e w3 ⟨rfl, hb3⟩
  have hb3 := below_seq hb2 hb3
  clear hb1
  go_wp2_with fail
  have HQ := Lib.hid (div_bounds (n := n) (m := m) bn)
  go_region_with (go_at_call 247; (refine (of_sm _ _ (by with_reducible first | exact HQ.out.1 | exact HQ.out.2.1 | exact HQ.out.2.2.1 | exact HQ.out.2.2.2.1 | exact HQ.out.2.2.2.2.1 | exact HQ.out.2.2.2.2.2)).mono ?_; rintro e w4 ⟨v, rfl, hv, hb4⟩))
  all_goals go_wp2
  all_goals go_ret2
  all_goals exact div_fin hb3 (by assumption) (by assumption) (by assumption) (by assumption)
end Go.Proofs.YthkkdepppjiaeaaGreatDoor

/- Walks of the program's package natural: divide by one word. -/
namespace Go.Proofs.YthkkdepppjiaeaaGreatDoor
open Go.RowKit

theorem ws_one {m : Nat} (h : (ws m).length = 1) : (ws m)[0]?.getD 0 = (m : Int) ∧ m < 1000000000 ∧ 0 < m := by
  have hv := ws_val m
  have hc := ws_can m
  rw [wval_one h] at hv
  have g := hc.1.getD 0
  rw [List.getD_eq_getElem?_getD] at g
  have := hc.pos (by intro e; rw [e] at h; simp at h)
  rw [ws_val] at this
  omega

set_option maxRecDepth 100000 in
set_option maxHeartbeats 2000000 in
theorem na_divide_one (va vb : Value) (n m : Nat) (w : World) (hA : Rd w va (ws n)) (hB : Rd w vb (ws m)) (hle : m ≤ n) (hl : (ws n).length ≤ 400000000) (h2 : ¬ (ws n).length ≤ 2) (h1 : (ws m).length = 1) :
    Calls Tryz.prog 248 #[va, vb] w (DivPost n m w) := by
  have hcmp := Lib.hid (na_compareB va vb n m w hA hB)
  have hneg : ¬ cmpI (n : Int) m < 0 := fun h => by have := cmpI_neg.1 h; omega
  obtain ⟨hm0, hm1, hm2⟩ := ws_one h1
  have SA := fun W hW => na_smallB va n W hW (by omega)
  have SB := fun W hW => na_smallB vb m W hW (by omega)
  simp only [if_neg h2, if_pos (show (ws m).length ≤ 2 by omega), decide_eq_false h2, decide_eq_true (show (ws m).length ≤ 2 by omega)] at SA SB
  have SA := Lib.hid SA
  have SB := Lib.hid SB
  have RA := Lib.hid hA
  have RB := Lib.hid hB
  have HY := fun W hW => Lib.hid (na_by va n m W hW (by omega) hm2 (by omega))
  have HY := Lib.hid HY
  obtain ⟨B, d, rfl, b1, b2, b3⟩ := hB
  obtain ⟨b, rfl, hc⟩ := b3.at_ (by omega)
  have hc0 := hc 0 (by omega)
  rw [hm0] at hc0
  have C0 := Lib.hid hc0
  have hlt := World.block_lt_of_cell? w _ hc0
  clear hc hc0
  rw [h1] at hcmp SB ⊢
  have H1 := Lib.hid h1

  clear hA h2 h1 hm0
  generalize cmpI (n : Int) m = x at *
  go_enter Tryz.func248, Tryz.ntmps248
  go_wp2_with fail
  refine hcmp.out.mono ?_
  rintro e w1 ⟨rfl, hb1⟩
  go_wp2_with fail
  refine (SA.out _ (RA.out.below hb1)).mono ?_
  rintro e w2 ⟨rfl, hb2⟩
  have hb2 := below_seq hb1 hb2
  go_wp2_with fail
  have hRB2 := RB.out.below hb2
  rw [H1.out] at hRB2
  refine (SB.out _ hRB2).mono ?_
  rintro e w3 ⟨rfl, hb3⟩
  have hb3 := below_seq hb2 hb3
  have hc0 := (hb3.cell hlt).trans C0.out
  clear hRB2 hb1
  go_wp2_with fail
  refine ((HY.out _ (RA.out.below hb3)).out).mono ?_
  rintro e w4 ⟨q, r, rfl, hq, hr, hb4⟩
  have HQ := Lib.hid hq
  have HR := Lib.hid hr
  clear hq hr
  go_wp2
  go_ret2
  exact ⟨_, _, rfl, HQ.out.rd, HR.out.rd, below_seq hb3 hb4⟩
end Go.Proofs.YthkkdepppjiaeaaGreatDoor

/- The world of the long division: what lies where, and what a store keeps. -/
namespace Go.Proofs.YthkkdepppjiaeaaGreatDoor
open Go.RowKit

theorem OwnG.other {w : World} {base g n c : Nat} {o : List Int} (h : OwnG w base g n c o) {a : Addr} (ha : a.block ≠ g) (x : Value) : OwnG (w.setCell a x) base g n c o := by
  obtain ⟨h0, h1, h2⟩ := h
  refine ⟨h0, h1, ?_⟩
  rcases h2 with h2 | ⟨g', cap, cur, e, hb', hh, r⟩
  · exact .inl h2
  · simp only [Value.slice.injEq, Option.some.injEq, Addr.mk.injEq, and_true, true_and] at e
    obtain ⟨rfl, rfl⟩ := e
    exact .inr ⟨g, c, cur, rfl, hb', by rw [Below.heap_setCell _ _ _ _ (Ne.symm ha)]; exact hh, r⟩

/-- What lies where: the factor, the dividend, the divisor, the quotient. -/
structure DW (w wr : World) (gf gu gv gq cf cu cv L K Q : Nat) (f u v q : List Int) : Prop where
  F : OwnG wr w.heap.size gf f.length cf f
  U : OwnG wr w.heap.size gu L cu u
  V : OwnG wr w.heap.size gv K cv v
  Q : OwnG wr w.heap.size gq Q Q q
  B : Below w.heap.size w wr
  o1 : gf < gu
  o2 : gu < gv
  o3 : gv < gq

theorem DW.drewN {w wr : World} {gf gu gv gq cf cu cv L K Q : Nat} {f u v q : List Int} (h : DW w wr gf gu gv gq cf cu cv L K Q f u v q) (n : Nat) : DW w (wr.drewN n) gf gu gv gq cf cu cv L K Q f u v q :=
  ⟨h.F.drewN n, h.U.drewN n, h.V.drewN n, h.Q.drewN n, below_drewN h.B n, h.o1, h.o2, h.o3⟩
theorem DW.setU {w wr : World} {gf gu gv gq cf cu cv L K Q : Nat} {f u v q : List Int} (h : DW w wr gf gu gv gq cf cu cv L K Q f u v q) (j : Nat) (x : Int) : DW w (wr.setCell ⟨gu, j, none⟩ (.int .u32 x)) gf gu gv gq cf cu cv L K Q f (u.set j x) v q := by
  have := h.o1; have := h.o2; have := h.o3
  exact ⟨h.F.other (by simp; omega) _, h.U.store j x, h.V.other (by simp; omega) _, h.Q.other (by simp; omega) _, h.B.setCell h.U.lt.1 _, h.o1, h.o2, h.o3⟩
theorem DW.setQ {w wr : World} {gf gu gv gq cf cu cv L K Q : Nat} {f u v q : List Int} (h : DW w wr gf gu gv gq cf cu cv L K Q f u v q) (j : Nat) (x : Int) : DW w (wr.setCell ⟨gq, j, none⟩ (.int .u32 x)) gf gu gv gq cf cu cv L K Q f u v (q.set j x) := by
  have := h.o1; have := h.o2; have := h.o3
  exact ⟨h.F.other (by simp; omega) _, h.U.other (by simp; omega) _, h.V.other (by simp; omega) _, h.Q.store j x, h.B.setCell h.Q.lt.1 _, h.o1, h.o2, h.o3⟩

theorem lead_at {u v : List Int} {j K : Nat} (hu : WOk u) (hv : WOk v) (hk : v.length = K) (h2 : 2 ≤ K) (hl : j + K < u.length) (hfit : wval (u.drop j) < wval v * 1000000000) (htop : 500000000 ≤ v[K - 1]?.getD 0) :
    Lead (wval (u.drop j)) (wval v) (u[j + K]?.getD 0) (u[j + K - 1]?.getD 0) (u[j + K - 2]?.getD 0) (v[K - 1]?.getD 0) (v[K - 2]?.getD 0) (bpow (K - 2)) ∧ wval (u.drop (j + K + 1)) = 0 := by
  obtain ⟨m, rfl⟩ : ∃ m, K = m + 2 := ⟨K - 2, by omega⟩
  have h := lead_of hu hv hk (by omega) hfit (by rw [show m + 2 - 1 = m + 1 by omega] at htop; exact htop)
  rw [show j + (m + 2) = j + m + 2 by omega, show j + m + 2 - 1 = j + m + 1 by omega, show j + m + 2 - 2 = j + m by omega, show m + 2 - 1 = m + 1 by omega, show m + 2 - 2 = m by omega, show j + m + 2 + 1 = j + m + 3 by omega]
  exact h

/-- The last word, when the divisor has been taken away. -/
theorem SubI.last {u0 u v : List Int} {g : Int} {j K : Nat} {c b : Int} (h : SubI u0 u v g j K c b) (hG : Gf (wval (u0.drop j)) (wval v) g) (hk : v.length = K) (hl : j + K < u0.length) (hz : wval (u0.drop (j + K + 1)) = 0) (hv : WOk v) :
    (u0[j + K]?.getD 0 - c - b = 0 ∧ g * wval v ≤ wval (u0.drop j)) ∨ (u0[j + K]?.getD 0 - c - b = -1 ∧ wval (u0.drop j) < g * wval v) := by
  have he := h.eq
  rw [← hk, List.take_length, hk] at he
  have hw := window (e := c + b) h.len (by rw [h.len]; exact hl) he h.rest h.low hz
  have h1 := wval_lt ((h.ok.drop j).take K)
  have h0 := wval_nonneg ((h.ok.drop j).take K)
  have hlen := h.len
  rw [show ((u.drop j).take K).length = K by simp; omega] at h1
  have hV := wval_lt hv
  rw [hk] at hV
  have g1 := hG.lo
  have g2 := hG.hi
  have hl2 := last_of hw h0 h1 hV (by grind) (by grind) (bpow_pos K)
  by_cases hc : g * wval v ≤ wval (u0.drop j)
  · exact .inl ⟨by have := hl2.1 (by omega); omega, hc⟩
  · exact .inr ⟨by have := hl2.2 (by omega); omega, by omega⟩
/-- .. and when it has been added back. -/
theorem AddI.last {u0 u1 u v : List Int} {g : Int} {j K : Nat} {c b p : Int} (h1 : SubI u0 u1 v g j K c b) (h : AddI u1 u v j K p) (hG : Gf (wval (u0.drop j)) (wval v) g) (hk : v.length = K) (hl : j + K < u0.length) (hz : wval (u0.drop (j + K + 1)) = 0) (hv : WOk v)
    (hn : wval (u0.drop j) < g * wval v) : u0[j + K]?.getD 0 - c - b + p = 0 := by
  have he1 := h1.eq
  have he2 := h.eq
  rw [← hk, List.take_length, hk] at he1 he2
  have hlen1 := h1.len
  have hlen := h.len
  have hw := window (u := u) (u0 := u0) (v := v) (g := g - 1) (e := c + b - p) (j := j) (k := K) (by omega) (by omega) (by rw [he2, he1]; grind) (fun t ht => (h.rest t ht).trans (h1.rest t ht)) (h.low.trans h1.low) hz
  have w1 := wval_lt ((h.ok.drop j).take K)
  have w0 := wval_nonneg ((h.ok.drop j).take K)
  rw [show ((u.drop j).take K).length = K by simp; omega] at w1
  have hV := wval_lt hv
  rw [hk] at hV
  have g1 := hG.lo
  have hl2 := last_of hw w0 w1 hV (by grind) (by grind) (bpow_pos K)
  have := hl2.1 (by omega)
  omega
/-- A round without adding back. -/
theorem SubI.round {u0 u v q : List Int} {U g : Int} {j K : Nat} {c b : Int} (hD : DivO u0 q v U (j + 1)) (h : SubI u0 u v g j K c b) (hG : Gf (wval (u0.drop j)) (wval v) g) (hk : v.length = K) (hl : j + K < u0.length) (hq : j < q.length)
    (h0 : u0[j + K]?.getD 0 - c - b = 0) (hle : g * wval v ≤ wval (u0.drop j)) : DivO (u.set (j + K) 0) (q.set j g) v U j := by
  have he := h.eq
  rw [← hk, List.take_length, hk] at he
  have hlen := h.len
  refine hD.round (k := K) ⟨hle, hG.hi⟩ hG.g0 hG.g1 (h.ok.set _ ⟨by decide, by decide⟩) (by simp [hlen]) (by simp; omega) ?_ hq ?_
  · rw [List.take_set, List.set_eq_of_length_le (by simp; omega)]; exact h.low
  · rw [wval_set _ _ _ (by omega), h.rest _ (Nat.le_refl _), he, show u0[j + K]?.getD 0 = c + b by omega]
    grind
/-- A round with adding back. -/
theorem AddI.round {u0 u1 u v q : List Int} {U g : Int} {j K : Nat} {c b p : Int} (hD : DivO u0 q v U (j + 1)) (h1 : SubI u0 u1 v g j K c b) (h : AddI u1 u v j K p) (hG : Gf (wval (u0.drop j)) (wval v) g) (hk : v.length = K) (hl : j + K < u0.length) (hq : j < q.length)
    (h0 : u0[j + K]?.getD 0 - c - b + p = 0) (hn : wval (u0.drop j) < g * wval v) (hV : 0 < wval v) (hW : 0 ≤ wval (u0.drop j)) : DivO (u.set (j + K) 0) (q.set j (g - 1)) v U j ∧ 0 ≤ g - 1 := by
  have he1 := h1.eq
  have he2 := h.eq
  rw [← hk, List.take_length, hk] at he1 he2
  have hlen1 := h1.len
  have hlen := h.len
  have g1 := hG.g1
  have hg0 : 0 ≤ g - 1 := nonneg_of_lt hV hW (by rw [show g - 1 + 1 = g by omega]; exact hn)
  refine ⟨hD.round (k := K) ⟨hG.lo, by rw [show g - 1 + 1 = g by omega]; exact hn⟩ hg0 (by omega) (h.ok.set _ ⟨by decide, by decide⟩) (by simp; omega) (by simp; omega) ?_ hq ?_, hg0⟩
  · rw [List.take_set, List.set_eq_of_length_le (by simp; omega)]; exact h.low.trans h1.low
  · rw [wval_set _ _ _ (by omega), h.rest _ (Nat.le_refl _), h1.rest _ (Nat.le_refl _), he2, he1, show u0[j + K]?.getD 0 = c + b - p by omega]
    grind
end Go.Proofs.YthkkdepppjiaeaaGreatDoor
