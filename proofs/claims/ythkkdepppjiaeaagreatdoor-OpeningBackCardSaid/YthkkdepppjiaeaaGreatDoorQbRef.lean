/- A PART OF THE PROOF, JOINED OUT OF 5 TEXTS. -/
import Derived.Test.YthkkdepppjiaeaaGreatDoorQaRef
/- Walks of the reference of layer 1: Minus. -/
namespace Go.Proofs.YthkkdepppjiaeaaGreatDoor
open Go.RowKit

set_option maxRecDepth 100000 in
set_option maxHeartbeats 4000000 in
theorem re_Minus (va vb : Value) (n m : Nat) (w : World) (hA : Rd w va (ws n)) (hB : Rd w vb (ws m)) (hmn : m ≤ n) (hm : (ws n).length ≤ 400000000) :
    Calls Tryz.prog 107 #[va, vb] w fun e w' => ∃ v, e = .returned v ∧ Own w' w.heap.size v (ws (n - m)) ∧ Below w.heap.size w w' := by
  have ha := ws_can n
  have hb := ws_can m
  have en := ws_val n
  have em := ws_val m
  generalize ws n = a at *
  generalize ws m = b at *
  have hlen := hb.len_le ha (by omega)
  obtain ⟨A, c, rfl, a1, a2, a3⟩ := hA
  obtain ⟨B, d, rfl, b1, b2, b3⟩ := hB
  unfold maxLen at a2 b2
  have OA := Lib.hid ha.1
  have OB := Lib.hid hb.1
  have RA := Lib.hid a3
  have RB := Lib.hid b3
  have HS := Lib.hid (MgI.start a b (-1))
  have HD : Hid (∀ o k, 0 ≤ k → k ≤ 1 → MgI a b o (-1) a.length (-k) → WOk o ∧ trimL o = ws (n - m)) := Lib.hid (fun o k h1 h2 h => by
    have he := h.eq
    rw [List.take_of_length_le (Nat.le_refl _), List.take_of_length_le hlen] at he
    have hl := wval_lt h.ok
    rw [h.len] at hl
    have : k = 0 := by
      rcases Int.lt_or_le 0 k with q | q
      · obtain rfl : k = 1 := by omega
        omega
      · omega
    subst this
    exact ⟨h.ok, ws_trim h.ok (by omega)⟩)
  obtain ⟨i0, hi, hz0, hz1, hz2⟩ := info_parts inf32
  have HO : Hid (Own w w.heap.size (.slice none 0 0) []) := Lib.hid (by exact ⟨rfl, Or.inl ⟨rfl, rfl⟩⟩)
  clear a3 b3 ha hb en em hmn
  go_enter Tryz.func107, Tryz.ntmps107
  go_wp2
  go_loopw [5, 6, 7] (fun v cx ix wr => ∃ (i : Nat) (o : List Int) (k : Int), i ≤ a.length ∧ ix = .int .i64 i ∧ cx = .int .i64 k ∧ 0 ≤ k ∧ k ≤ 1 ∧ Hid (MgI a b o (-1) i (-k)) ∧ Hid (Own wr w.heap.size v o) ∧ Below w.heap.size w wr) (fun _ _ ix _ => a.length - (intOf ix).toNat)
  case atStart => exact ⟨0, [], 0, Nat.zero_le _, rfl, rfl, by decide, by decide, HS, HO, Below.refl _ _⟩
  case round =>
    obtain ⟨i, o, k, hiN, rfl, rfl, hk0, hk1, HI, HW, hBr⟩ := hrel
    have hsz := hBr.size
    have gx := OA.out.getD i
    have gy := OB.out.getD i
    rw [List.getD_eq_getElem?_getD] at gx gy
    have gx0 := gx.1
    have gx1 := gx.2
    have gy0 := gy.1
    have gy1 := gy.2
    have hol := HI.out.len
    have hle : o.length ≤ 400000001 := by omega
    have HL := Lib.hid hol
    clear gx gy hol
    have ST : Hid (∀ q r : Int, 0 ≤ r → r < 1000000000 → q * 1000000000 + r = -k + a[i]?.getD 0 + (-1) * b[i]?.getD 0 → MgI a b (o ++ [r]) (-1) (i + 1) q) := Lib.hid (fun q r h0 h1 h2 => HI.out.step OA.out OB.out (Or.inr rfl) h0 h1 h2)
    have NB : ¬ i < b.length → b[i]?.getD 0 = 0 := fun h => by rw [List.getElem?_eq_none (by omega)]; rfl
    by_cases ca : i < a.length
    · obtain ⟨ba, rfl, hc⟩ := (RA.out.below hBr).at_ (by omega)
      have cx := hc i ca
      clear hc
      generalize a[i]?.getD 0 = x at *
      by_cases cb : i < b.length
      · obtain ⟨bb, rfl, hc⟩ := (RB.out.below hBr).at_ (by omega)
        have cy := hc i cb
        clear hc NB
        generalize b[i]?.getD 0 = y at *
        by_cases ht : x - k - y < 0
        · have hlo : 0 ≤ x - k - y + 1000000000 := by omega
          go_wp2_with (at_builtin; refine wpList_append_own _ rfl (.tmp 37) (.tmp 40) 41 rfl w.heap.size 101 i0 (.int .u32 0) 1 4 Tryz.underlying41 hi hz0 hz1 hz2 rfl (by decide) _ _ _ rfl (World.ownsRow.alloc HW.out _) ⟨wr.heap.size, 0, none⟩ 1 1 _ rfl rfl (one_cell _ _ _) (fun u hu => by rw [List.mem_singleton] at hu; subst hu; rfl) (by unfold maxLen; omega) (by omega) (by simp; omega) ?_; intro v' w2 hown hgrow _)
          obtain ⟨hO, hB2⟩ := HW.out.app hBr hsz hown hgrow
          exact ⟨⟨i + 1, _, 1, by omega, by simp, rfl, by decide, by decide, Lib.hid (ST.out (-1) _ (by omega) (by omega) (by omega)), Lib.hid hO, hB2⟩, by simp [intOf]; omega⟩
        · have hlo : 0 ≤ x - k - y := by omega
          go_wp2_with (at_builtin; refine wpList_append_own _ rfl (.tmp 37) (.tmp 40) 41 rfl w.heap.size 101 i0 (.int .u32 0) 1 4 Tryz.underlying41 hi hz0 hz1 hz2 rfl (by decide) _ _ _ rfl (World.ownsRow.alloc HW.out _) ⟨wr.heap.size, 0, none⟩ 1 1 _ rfl rfl (one_cell _ _ _) (fun u hu => by rw [List.mem_singleton] at hu; subst hu; rfl) (by unfold maxLen; omega) (by omega) (by simp; omega) ?_; intro v' w2 hown hgrow _)
          obtain ⟨hO, hB2⟩ := HW.out.app hBr hsz hown hgrow
          exact ⟨⟨i + 1, _, 0, by omega, by simp, rfl, by decide, by decide, Lib.hid (ST.out (-0) _ (by omega) (by omega) (by omega)), Lib.hid hO, hB2⟩, by simp [intOf]; omega⟩
      · have ey := NB cb
        clear NB
        rw [ey] at ST
        clear ey gy0 gy1
        by_cases ht : x - k < 0
        · have hlo : 0 ≤ x - k + 1000000000 := by omega
          go_wp2_with (at_builtin; refine wpList_append_own _ rfl (.tmp 37) (.tmp 40) 41 rfl w.heap.size 101 i0 (.int .u32 0) 1 4 Tryz.underlying41 hi hz0 hz1 hz2 rfl (by decide) _ _ _ rfl (World.ownsRow.alloc HW.out _) ⟨wr.heap.size, 0, none⟩ 1 1 _ rfl rfl (one_cell _ _ _) (fun u hu => by rw [List.mem_singleton] at hu; subst hu; rfl) (by unfold maxLen; omega) (by omega) (by simp; omega) ?_; intro v' w2 hown hgrow _)
          obtain ⟨hO, hB2⟩ := HW.out.app hBr hsz hown hgrow
          exact ⟨⟨i + 1, _, 1, by omega, by simp, rfl, by decide, by decide, Lib.hid (ST.out (-1) _ (by omega) (by omega) (by omega)), Lib.hid hO, hB2⟩, by simp [intOf]; omega⟩
        · have hlo : 0 ≤ x - k := by omega
          go_wp2_with (at_builtin; refine wpList_append_own _ rfl (.tmp 37) (.tmp 40) 41 rfl w.heap.size 101 i0 (.int .u32 0) 1 4 Tryz.underlying41 hi hz0 hz1 hz2 rfl (by decide) _ _ _ rfl (World.ownsRow.alloc HW.out _) ⟨wr.heap.size, 0, none⟩ 1 1 _ rfl rfl (one_cell _ _ _) (fun u hu => by rw [List.mem_singleton] at hu; subst hu; rfl) (by unfold maxLen; omega) (by omega) (by simp; omega) ?_; intro v' w2 hown hgrow _)
          obtain ⟨hO, hB2⟩ := HW.out.app hBr hsz hown hgrow
          exact ⟨⟨i + 1, _, 0, by omega, by simp, rfl, by decide, by decide, Lib.hid (ST.out (-0) _ (by omega) (by omega) (by omega)), Lib.hid hO, hB2⟩, by simp [intOf]; omega⟩
    · obtain rfl : i = a.length := by omega
      have hd := HD.out o k hk0 hk1 HI.out
      have HT := Lib.hid hd.2
      have HR := HW.out.rd
      obtain ⟨A', c', rfl, e2, e3, e4⟩ := HR
      clear hd ST NB gx0 gx1 gy0 gy1
      go_wp2_with fail
      refine (re_trim A' c' o _ e2 e3 e4).mono ?_
      rintro e w' ⟨rfl, rfl⟩
      go_wp2
      go_ret
      exact ⟨_, rfl, by rw [← HT.out]; exact HW.out.trim, hBr⟩
end Go.Proofs.YthkkdepppjiaeaaGreatDoor

/- Walks of the reference of layer 1: small. -/
namespace Go.Proofs.YthkkdepppjiaeaaGreatDoor
open Go.RowKit

set_option maxHeartbeats 1000000 in
theorem re_small (v : Value) (n d : Nat) (w : World) (hv : Rd w v (ws n)) (hs : (ws n).length ≤ 1000000000) (hd0 : 0 < d) (hd : d ≤ 1000000000) :
    Calls Tryz.prog 142 #[v, .int .u32 d] w fun e w' =>
      ∃ q, e = .returned (.tuple #[q, .int .u32 ((n % d : Nat) : Int)]) ∧ Own w' w.heap.size q (ws (n / d)) ∧ Below w.heap.size w w' := by
  obtain ⟨A, c, rfl, a1, a2, a3⟩ := hv
  unfold maxLen at a2
  have OK := Lib.hid (ws_can n).1
  have HR := Lib.hid a3
  have HS := Lib.hid (ByInv.start (ws n) d (by omega))
  have HD : Hid (∀ (o : List Int) (r : Int), ByInv (ws n) o d r 0 → trimL o = ws (n / d) ∧ r = (n % d : Nat) ∧ 0 ≤ r) := Lib.hid (fun o r h => h.done)
  have hN : ((d : Int) != 0) = true := by rw [bne_iff_ne]; omega
  obtain ⟨i0, hi, hz0, hz1, hz2⟩ := info_parts inf32
  generalize hws : ws n = l at *
  clear hws a3
  go_enter Tryz.func142, Tryz.ntmps142
  go_wp2_with (at_make; refine wpList_make_full _ rfl _ _ 41 rfl w.heap.size 101 i0 (.int .u32 0) 1 Tryz.underlying41 hi hz0 hz1 _ _ _ _ l.length rfl rfl rfl rfl (by rw [hz2]; omega) (by unfold maxLen; omega) (Nat.le_refl _) ?_; intro w1 hown hgrow)
  have hB : Below w.heap.size w w1 := (Below.refl _ _).grown hgrow (Nat.le_refl _) (fun k hk => by cases hk)
  have HO : Hid (OwnG w1 w.heap.size w.heap.size l.length l.length (List.replicate l.length 0)) := Lib.hid (OwnG.made hown)
  clear hown hgrow hi hz0 hz1 hz2
  go_wp2
  go_loopw [7, 8] (fun r i wr => ∃ (k : Nat) (o : List Int) (x : Int), k ≤ l.length ∧ i = .int .i64 ((k : Int) - 1) ∧ r = .int .u64 x ∧ Hid (ByInv l o d x k) ∧ Hid (OwnG wr w.heap.size w.heap.size l.length l.length o) ∧ Below w.heap.size w wr) (fun _ i _ => (intOf i + 1).toNat)
  case atStart => exact ⟨l.length, _, 0, Nat.le_refl _, rfl, rfl, HS, HO, hB⟩
  case round =>
    obtain ⟨k, o, x, hk, rfl, rfl, HI, HW, hBr⟩ := hrel
    have hx0 := HI.out.r0
    have hx1 := HI.out.r1
    have hsz := hBr.size
    by_cases h0 : 0 < k
    · obtain ⟨j, rfl⟩ : ∃ j, k = j + 1 := ⟨k - 1, by omega⟩
      obtain ⟨b, rfl, hc⟩ := (HR.out.below hBr).at_ (by omega)
      have cx := hc j (by omega)
      have gx := OK.out.getD j
      rw [List.getD_eq_getElem?_getD] at gx
      have gx0 := gx.1
      have gx1 := gx.2
      have co := HW.out.cell j (by omega)
      have cf := HW.out.free j
      have HN := Lib.hid (HI.out.step (by omega) HW.out.1 OK.out)
      clear hc gx
      generalize l[j]?.getD 0 = y at *
      generalize o[j]?.getD 0 = z at *
      have HQ := Lib.hid (byq_lt hx0 hx1 gx0 gx1)
      go_wp2
      refine ⟨⟨j, o.set j ((x * 1000000000 + y) / d), _, by omega, by simp, rfl, HN, Lib.hid ?_, hBr.setCell (Nat.le_refl _) _⟩, by simp [intOf]⟩
      rw [Int.emod_eq_of_lt HQ.out.1 (by have := HQ.out.2; omega)]
      exact HW.out.store j _
    · obtain rfl : k = 0 := by omega
      have hdone := HD.out o x HI.out
      have HE := Lib.hid hdone
      have ht := re_trim (some ⟨w.heap.size, 0, none⟩) l.length o wr (by rw [HW.out.1]; exact Nat.le_refl _) (by unfold maxLen; omega) (by
        obtain ⟨A', c', e1, e2, e3, e4⟩ := HW.out.own.rd
        simp only [Value.slice.injEq] at e1
        obtain ⟨rfl, _, rfl⟩ := e1
        exact e4)
      rw [HW.out.1] at ht
      have hq := HW.out.own.trim
      rw [hdone.1] at ht hq
      have HQ := Lib.hid hq
      have HX := Lib.hid hdone.2.1
      clear hdone hq
      go_wp2_with fail
      refine ht.mono ?_
      rintro e w' ⟨rfl, rfl⟩
      clear ht
      have hx2 : x < 4294967296 := by omega
      go_wp2
      go_ret2
      exact ⟨_, by rw [HX.out]; rfl, HQ.out, hBr⟩
end Go.Proofs.YthkkdepppjiaeaaGreatDoor

/- Walks of the reference of layer 1: Times. -/
namespace Go.Proofs.YthkkdepppjiaeaaGreatDoor
open Go.RowKit

set_option maxRecDepth 100000 in
set_option maxHeartbeats 4000000 in
theorem re_Times (va vb : Value) (m n : Nat) (w : World) (hA : Rd w va (ws m)) (hB : Rd w vb (ws n)) (hm : (ws m).length ≤ 400000000) (hn : (ws n).length ≤ 400000000) :
    Calls Tryz.prog 68 #[va, vb] w fun e w' =>
      ∃ q, e = .returned q ∧ Own w' w.heap.size q (ws (m * n)) ∧ Below w.heap.size w w' := by
  obtain ⟨A, c, rfl, a1, a2, a3⟩ := hA
  obtain ⟨B, d, rfl, b1, b2, b3⟩ := hB
  unfold maxLen at a2 b2
  have OA := Lib.hid (ws_can m).1
  have OB := Lib.hid (ws_can n).1
  have RA := Lib.hid a3
  have RB := Lib.hid b3
  have HS := Lib.hid (MulO.start (ws m) (ws n))
  have HD : Hid (∀ o, MulO (ws m) (ws n) o (ws m).length → trimL o = ws (m * n)) := Lib.hid (fun o h => h.done)
  obtain ⟨i0, hi, hz0, hz1, hz2⟩ := info_parts inf32
  have HZ0 : Hid ((ws m).length = 0 ∨ (ws n).length = 0 → ws (m * n) = []) := Lib.hid (fun h => by
    rcases h with h | h
    · have : m = 0 := by have := ws_val m; rw [List.eq_nil_of_length_eq_zero h] at this; simp [wval] at this; omega
      rw [this, Nat.zero_mul, ws_zero]
    · have : n = 0 := by have := ws_val n; rw [List.eq_nil_of_length_eq_zero h] at this; simp [wval] at this; omega
      rw [this, Nat.mul_zero, ws_zero])
  generalize ws m = a at *
  generalize ws n = b at *
  clear a3 b3
  by_cases hz : a.length = 0 ∨ b.length = 0
  · have HZ : Hid (ws (m * n) = []) := Lib.hid (HZ0.out hz)
    have HQ : Hid (Own w w.heap.size (.slice none 0 0) (ws (m * n))) := Lib.hid (by rw [HZ.out]; exact ⟨rfl, Or.inl ⟨rfl, rfl⟩⟩)
    clear hi hz0 hz1 hz2 HZ
    by_cases ha : a.length = 0
    · have d0 : ((a.length : Int) == 0) = true := by rw [ha]; rfl
      clear hz
      go_enter Tryz.func68, Tryz.ntmps68
      go_wp2
      go_ret
      exact ⟨_, rfl, HQ.out, Below.refl _ _⟩
    · have d0 : ((a.length : Int) == 0) = false := by rw [beq_eq_false_iff_ne]; omega
      have d1 : ((b.length : Int) == 0) = true := by rw [hz.resolve_left ha]; rfl
      clear hz
      go_enter Tryz.func68, Tryz.ntmps68
      go_wp2
      go_ret
      exact ⟨_, rfl, HQ.out, Below.refl _ _⟩
  have d0 : ((a.length : Int) == 0) = false := by rw [beq_eq_false_iff_ne]; omega
  have d1 : ((b.length : Int) == 0) = false := by rw [beq_eq_false_iff_ne]; omega
  clear hz HZ0
  go_enter Tryz.func68, Tryz.ntmps68
  go_wp2_with (at_make; refine wpList_make_full _ rfl _ _ 41 rfl w.heap.size 101 i0 (.int .u32 0) 1 Tryz.underlying41 hi hz0 hz1 _ _ _ _ (a.length + b.length) rfl rfl (by simp) (by simp) (by rw [hz2]; omega) (by unfold maxLen; omega) (Nat.le_refl _) ?_; intro w1 hown hgrow)
  have hBl : Below w.heap.size w w1 := (Below.refl _ _).grown hgrow (Nat.le_refl _) (fun k hk => by cases hk)
  have HO : Hid (OwnG w1 w.heap.size w.heap.size (a.length + b.length) (a.length + b.length) (List.replicate (a.length + b.length) 0)) := Lib.hid (OwnG.made hown)
  clear hown hgrow hi hz0 hz1 hz2
  go_wp2
  go_loopw [6] (fun ix wr => ∃ (i : Nat) (o : List Int), i ≤ a.length ∧ ix = .int .i64 i ∧ Hid (MulO a b o i) ∧ Hid (OwnG wr w.heap.size w.heap.size (a.length + b.length) (a.length + b.length) o) ∧ Below w.heap.size w wr) (fun ix _ => a.length - (intOf ix).toNat)
  case atStart => exact ⟨0, _, Nat.zero_le _, rfl, HS, HO, hBl⟩
  case round =>
    obtain ⟨i, o, hi, rfl, HI, HW, hBr⟩ := hrel
    have hsz := hBr.size
    by_cases h0 : i < a.length
    · obtain ⟨ba, rfl, hc⟩ := (RA.out.below hBr).at_ (by omega)
      have cx := hc i h0
      have gx := OA.out.getD i
      rw [List.getD_eq_getElem?_getD] at gx
      have gx0 := gx.1
      have gx1 := gx.2
      have HE := Lib.hid HI.out.enter
      clear hc gx
      generalize hx : a[i]?.getD 0 = x at *
      have HX := Lib.hid hx
      clear hx cx
      go_wp2
      obtain ⟨wo, rfl⟩ : ∃ wo : World, wo = wr := ⟨_, rfl⟩
      go_loopw [8, 7] (fun kx cx wr => ∃ (k : Nat) (o : List Int) (c : Int), k ≤ b.length ∧ kx = .int .i64 k ∧ cx = .int .u64 c ∧ Hid (MulI a b o i k c) ∧ Hid (OwnG wr w.heap.size w.heap.size (a.length + b.length) (a.length + b.length) o) ∧ Below w.heap.size w wr) (fun kx _ _ => b.length - (intOf kx).toNat)
      case atStart => exact ⟨0, _, 0, Nat.zero_le _, rfl, rfl, HE, HW, hBr⟩
      case round =>
        obtain ⟨k, o, c', hk, rfl, rfl, HI2, HW2, hBr2⟩ := hrel
        have hsz2 := hBr2.size
        have hc0 := HI2.out.c0
        have hc1 := HI2.out.c1
        by_cases h2 : k < b.length
        · obtain ⟨bb, rfl, hc⟩ := (RB.out.below hBr2).at_ (by omega)
          have cy := hc k h2
          have gy := OB.out.getD k
          have gz := HI2.out.ok.getD (i + k)
          rw [List.getD_eq_getElem?_getD] at gy gz
          have gy0 := gy.1
          have gy1 := gy.2
          have gz0 := gz.1
          have gz1 := gz.2
          have co := HW2.out.cell (i + k) (by omega)
          have cf := HW2.out.free (i + k)
          obtain ⟨ba2, heq, hca⟩ := (RA.out.below hBr2).at_ (by omega)
          simp only [Option.some.injEq, Addr.mk.injEq, and_true] at heq
          subst heq
          have cx := hca i h0
          rw [HX.out] at cx
          clear hca
          have HN := HI2.out.step OA.out OB.out h0 h2 HW2.out.1
          rw [HX.out] at HN
          have HN := Lib.hid HN
          clear hc gy gz
          generalize b[k]?.getD 0 = y at *
          generalize o[i + k]?.getD 0 = z at *
          have hf := mul_fit gx0 gx1 gy0 gy1 gz0 gz1 hc0 hc1
          have f1 := hf.1; have f2 := hf.2.1; have f3 := hf.2.2.1; have f4 := hf.2.2.2.1; have f5 := hf.2.2.2.2.1; have f6 := hf.2.2.2.2.2
          clear hf
          have e1 : z + x * y = x * y + z := Int.add_comm _ _
          have e2 : z + x * y + c' = c' + (x * y + z) := by rw [e1]; exact Int.add_comm _ _
          have g1 : 0 ≤ z + x * y := by rw [e1]; exact f3
          have g2 : z + x * y ≤ 1000000000000000000 := by rw [e1]; exact f4
          have g3 : 0 ≤ z + x * y + c' := by rw [e2]; exact f1
          have g4 : z + x * y + c' ≤ 1000000000000000000 := by rw [e2]; exact f2
          have E2 := Lib.hid e2
          clear e1 e2
          have hw : IntKind.i64.wrap ((i : Int) + (k : Int)) = (i : Int) + (k : Int) := IntWalk.i64_in _ (by omega)
          have hw1 : (0 : Int) ≤ (i : Int) + (k : Int) := by omega
          have hw2 : (i : Int) + (k : Int) < (a.length : Int) + (b.length : Int) := by omega
          have hw3 : ((i : Int) + (k : Int)).toNat = i + k := by omega
          have ST := Lib.hid (fun v => HW2.out.store (i + k) v)
          go_wp2
          go_quiet (fail)
          go_wp2
          refine ⟨⟨k + 1, _, _, by omega, by simp, rfl, ?_, Lib.hid (ST.out _), (below_drewN hBr2 _).setCell (Nat.le_refl _) _⟩, by simp [intOf]; omega⟩
          rw [E2.out]
          exact HN
        · obtain rfl : k = b.length := by omega
          have co := HW2.out.cell (i + b.length) (by omega)
          have cf := HW2.out.free (i + b.length)
          have HN := Lib.hid (HI2.out.leave h0 HW2.out.1)
          generalize o[i + b.length]?.getD 0 = z at *
          go_wp2
          exact ⟨⟨i + 1, _, by omega, by simp, HN, Lib.hid (HW2.out.store (i + b.length) _), hBr2.setCell (Nat.le_refl _) _⟩, by simp [intOf]; omega⟩
    · obtain rfl : i = a.length := by omega
      have hdone := HD.out o HI.out
      have ht := re_trim (some ⟨w.heap.size, 0, none⟩) (a.length + b.length) o wr (by rw [HW.out.1]; exact Nat.le_refl _) (by unfold maxLen; omega) (by
        obtain ⟨A', c', e1, e2, e3, e4⟩ := HW.out.own.rd
        simp only [Value.slice.injEq] at e1
        obtain ⟨rfl, _, rfl⟩ := e1
        exact e4)
      rw [HW.out.1] at ht
      have hq := HW.out.own.trim
      rw [hdone] at ht hq
      have HQ := Lib.hid hq
      clear hdone hq
      go_wp2_with fail
      refine ht.mono ?_
      rintro e w' ⟨rfl, rfl⟩
      clear ht
      go_wp2
      go_ret
      exact ⟨_, rfl, HQ.out, hBr⟩
end Go.Proofs.YthkkdepppjiaeaaGreatDoor

/- Digits and words: what the reference's From and To do to lists (plain). -/
namespace Go.Proofs.YthkkdepppjiaeaaGreatDoor
open Go.RowKit

/-- The digits of a positive number, the last one first; none of zero. -/
def rdz (m : Nat) : List Int := if m = 0 then [] else (Lib.decDigits m).reverse.map (fun c => (c.toNat : Int))
theorem rdz_zero : rdz 0 = [] := if_pos rfl
theorem rdz_step {m : Nat} (h : 0 < m) : rdz m = (48 + (m % 10 : Nat) : Int) :: rdz (m / 10) := by
  unfold rdz
  rw [if_neg (by omega), Lib.decDigits]
  by_cases h10 : m < 10
  · rw [dif_pos h10, if_pos (by omega)]
    simp only [List.reverse_singleton, List.map_cons, List.map_nil]
    rw [ofNat_dig m h10]
    congr 1
    omega
  · rw [dif_neg h10, if_neg (by omega), List.reverse_append]
    simp only [List.reverse_singleton, List.singleton_append, List.map_cons]
    rw [ofNat_dig _ (by omega)]
    congr 1
theorem rdz_bytes {m : Nat} (h : 0 < m) : (rdz m).reverse = (Lib.decDigits m).map (fun c => (c.toNat : Int)) := by
  unfold rdz
  rw [if_neg (by omega), ← List.map_reverse, List.reverse_reverse]

theorem ws_drop (n i : Nat) : (ws n).drop i = ws (n / 1000000000 ^ i) := by
  induction i generalizing n with
  | zero => simp
  | succ i ih =>
    by_cases h : n = 0
    · subst h; rw [ws_zero, Nat.zero_div, ws_zero]; rfl
    · rw [ws_pos h, List.drop_succ_cons, ih, Nat.div_div_eq_div_mul, Nat.pow_succ, Nat.mul_comm]
theorem ws_at (n i : Nat) : (ws n)[i]?.getD 0 = ((n / 1000000000 ^ i % 1000000000 : Nat) : Int) := by
  have h := ws_drop n i
  have e : (ws n)[i]? = ((ws n).drop i)[0]? := by rw [List.getElem?_drop, Nat.add_zero]
  rw [e, h]
  by_cases h0 : n / 1000000000 ^ i = 0
  · rw [h0, ws_zero]; rfl
  · rw [ws_pos h0]; rfl
theorem ws_in (n i : Nat) : i < (ws n).length ↔ 0 < n / 1000000000 ^ i := by
  have h := ws_drop n i
  have hl := congrArg List.length h
  rw [List.length_drop] at hl
  constructor
  · intro hi
    rcases Nat.eq_zero_or_pos (n / 1000000000 ^ i) with e | e
    · rw [e, ws_zero] at hl; simp at hl; omega
    · exact e
  · intro hp
    have : (ws (n / 1000000000 ^ i)).length ≠ 0 := fun e => by
      have := ws_nil_iff.1 (List.eq_nil_of_length_eq_zero e); omega
    omega

/-- One word on its way to digits: w of it is left, H are the words behind it. -/
structure ToI (n H k w : Nat) (o : List Int) : Prop where
  k9 : k ≤ 9
  lt : w < 10 ^ (9 - k)
  eq : rdz n = o ++ rdz (w + 10 ^ (9 - k) * H)
theorem ToI.lt9 {n H k w : Nat} {o : List Int} (h : ToI n H k w o) : w < 1000000000 :=
  Nat.lt_of_lt_of_le h.lt (Nat.pow_le_pow_right (n := 10) (by decide) (show 9 - k ≤ 9 by omega))
theorem ToI.step {n H k w : Nat} {o : List Int} (h : ToI n H k w o) (hk : k < 9) (h0 : 0 < H ∨ 0 < w) : ToI n H (k + 1) (w / 10) (o ++ [(48 + (w % 10 : Nat) : Int)]) := by
  obtain ⟨j, hj⟩ : ∃ j, 9 - k = j + 1 := ⟨9 - k - 1, by omega⟩
  have e1 : 9 - (k + 1) = j := by omega
  have hlt := h.lt
  have he := h.eq
  rw [hj, Nat.pow_succ] at hlt he
  have hp : 0 < 10 ^ j := Nat.pow_pos (by decide)
  refine ⟨by omega, by rw [e1]; omega, ?_⟩
  rw [e1, he, List.append_assoc]
  have eT : 10 ^ j * 10 * H = 10 * (10 ^ j * H) := by rw [Nat.mul_comm (10 ^ j) 10, Nat.mul_assoc]
  have hT : 0 < H → 0 < 10 ^ j * H := fun hh => Nat.mul_pos hp hh
  rw [eT]
  generalize 10 ^ j * H = T at *
  rw [rdz_step (m := w + 10 * T) (by rcases h0 with h0 | h0; (have := hT h0; omega); omega)]
  rw [show (w + 10 * T) % 10 = w % 10 by omega, show (w + 10 * T) / 10 = w / 10 + T by omega]
  rfl
theorem ToI.done {n H k w : Nat} {o : List Int} (h : ToI n H k w o) (h0 : k = 9 ∨ (H = 0 ∧ w = 0)) : rdz n = o ++ rdz H := by
  have hlt := h.lt
  have he := h.eq
  rcases h0 with rfl | ⟨rfl, rfl⟩
  · rw [show 9 - 9 = 0 by rfl, Nat.pow_zero] at hlt he
    obtain rfl : w = 0 := by omega
    rw [he, Nat.zero_add, Nat.one_mul]
  · rw [he, Nat.mul_zero]
theorem ToI.enter {n i : Nat} {o : List Int} (h : rdz n = o ++ rdz (n / 1000000000 ^ i)) : ToI n (n / 1000000000 ^ (i + 1)) 0 (n / 1000000000 ^ i % 1000000000) o := by
  refine ⟨by omega, ?_, ?_⟩
  · show _ < 10 ^ 9
    have : (10 : Nat) ^ 9 = 1000000000 := by decide
    omega
  · rw [h]
    congr 2
    have e : n / 1000000000 ^ (i + 1) = n / 1000000000 ^ i / 1000000000 := by rw [Nat.pow_succ, Nat.div_div_eq_div_mul]
    rw [e]
    show _ = _ + 10 ^ 9 * _
    have : (10 : Nat) ^ 9 = 1000000000 := by decide
    rw [this]
    omega

/-- A list of which i places at both ends are exchanged. -/
structure RvI (l o : List Int) (i : Nat) : Prop where
  len : o.length = l.length
  at_ : ∀ j, j < l.length → o[j]?.getD 0 = if j < i ∨ l.length - 1 - i < j then l[l.length - 1 - j]?.getD 0 else l[j]?.getD 0
theorem RvI.start (l : List Int) : RvI l l 0 := ⟨rfl, fun j hj => by rw [if_neg (by omega)]⟩
theorem RvI.step {l o : List Int} {i : Nat} (h : RvI l o i) (hi : i < l.length - 1 - i) : RvI l ((o.set i (o[l.length - 1 - i]?.getD 0)).set (l.length - 1 - i) (o[i]?.getD 0)) (i + 1) := by
  refine ⟨by simp [h.len], fun j hj => ?_⟩
  have hl := h.len
  have a1 := h.at_ i (by omega)
  have a2 := h.at_ (l.length - 1 - i) (by omega)
  have a3 := h.at_ j hj
  rw [if_neg (by omega)] at a1 a2
  by_cases e1 : j = l.length - 1 - i
  · subst e1
    rw [List.getElem?_set_self (by simp; omega), if_pos (by omega), show l.length - 1 - (l.length - 1 - i) = i by omega]
    exact a1
  · rw [List.getElem?_set_ne (by omega)]
    by_cases e2 : j = i
    · subst e2
      rw [List.getElem?_set_self (by omega), if_pos (by omega)]
      exact a2
    · rw [List.getElem?_set_ne (by omega), a3]
      by_cases e3 : j < i ∨ l.length - 1 - i < j
      · rw [if_pos e3, if_pos (by omega)]
      · rw [if_neg e3, if_neg (by omega)]
theorem RvI.done {l o : List Int} {i : Nat} (h : RvI l o i) (hi : ¬ i < l.length - 1 - i) : o = l.reverse := by
  apply List.ext_getElem
  · simp [h.len]
  · intro j h1 h2
    have hl := h.len
    have a := h.at_ j (by omega)
    rw [List.getElem_reverse]
    rw [List.getElem?_eq_getElem h1, Option.getD_some] at a
    rw [a]
    by_cases e : j < i ∨ l.length - 1 - i < j
    · rw [if_pos e, List.getElem?_eq_getElem (by omega), Option.getD_some]
    · rw [if_neg e, List.getElem?_eq_getElem (by omega), Option.getD_some]
      congr 1
      omega

/-! ### From -/
/-- So many words have been read from the end of a text. -/
structure FrO (s : List UInt8) (o : List Int) : Prop where
  ok : WOk o
  eq : wval o = dval (s.drop (s.length - 9 * o.length))
theorem FrO.start (s : List UInt8) : FrO s [] := ⟨WOk.nil, by simp [wval, dval_nil]⟩
theorem bpow_tenN (k : Nat) : bpow k = ((10 ^ (9 * k) : Nat) : Int) := by
  unfold bpow
  rw [Nat.pow_mul]
  simp
theorem FrO.step {s : List UInt8} {o : List Int} (h : FrO s o) (hd : ∀ c ∈ s, isDig c) (h0 : 9 * o.length < s.length) :
    FrO s (o ++ [(dval ((s.drop (s.length - 9 * (o.length + 1))).take (s.length - 9 * o.length - (s.length - 9 * (o.length + 1)))) : Int)]) := by
  generalize hst : s.length - 9 * (o.length + 1) = st
  generalize hen : s.length - 9 * o.length = en
  have hlt := dval_lt ((s.drop st).take (en - st)) (fun c hc => hd c (List.mem_of_mem_drop (List.mem_of_mem_take hc)))
  have hlen : ((s.drop st).take (en - st)).length = en - st := by simp; omega
  rw [hlen] at hlt
  have h9 : (10 : Nat) ^ (en - st) ≤ 10 ^ 9 := Nat.pow_le_pow_right (by decide) (by omega)
  have e9 : (10 : Nat) ^ 9 = 1000000000 := by decide
  refine ⟨h.ok.append (fun x hx => ?_), ?_⟩
  · rw [List.mem_singleton] at hx
    subst hx
    omega
  · have e1 : s.drop st = (s.drop st).take (en - st) ++ s.drop en := by
      have := List.take_append_drop (en - st) (s.drop st)
      rw [List.drop_drop, show st + (en - st) = en by omega] at this
      exact this.symm
    have e2 := dval_append ((s.drop st).take (en - st)) (s.drop en)
    rw [← e1] at e2
    rw [List.length_append, List.length_singleton, hst, wval_snoc, h.eq, hen, e2, bpow_tenN]
    rw [show (s.drop en).length = 9 * o.length by simp; omega]
    rw [Int.natCast_add, Int.natCast_mul]
    generalize ((dval ((s.drop st).take (en - st)) : Nat) : Int) = x
    generalize ((10 ^ (9 * o.length) : Nat) : Int) = y
    rw [Int.mul_comm y x, Int.add_comm]
theorem FrO.done {s : List UInt8} {o : List Int} (h : FrO s o) (h0 : s.length ≤ 9 * o.length) : trimL o = ws (dval s) := by
  have he := h.eq
  rw [show s.length - 9 * o.length = 0 by omega, List.drop_zero] at he
  exact ws_trim h.ok he
/-- One more digit. -/
theorem dval_take_succ (s : List UInt8) (st i : Nat) (h : i < s.length) (hi : st ≤ i) : dval ((s.drop st).take (i + 1 - st)) = dval ((s.drop st).take (i - st)) * 10 + dgv (s[i]'h) := by
  rw [show i + 1 - st = (i - st) + 1 by omega, List.take_succ_eq_append_getElem (by simp; omega), dval_append, dval_single]
  simp only [List.length_singleton, Nat.pow_one, List.getElem_drop]
  congr 3
  omega
theorem dval_take_lt (s : List UInt8) (st i : Nat) (hd : ∀ c ∈ s, isDig c) (h : i - st ≤ 8) : dval ((s.drop st).take (i - st)) < 100000000 := by
  have h1 := dval_lt ((s.drop st).take (i - st)) (fun c hc => hd c (List.mem_of_mem_drop (List.mem_of_mem_take hc)))
  have h2 : ((s.drop st).take (i - st)).length ≤ 8 := by simp; omega
  have h3 : (10 : Nat) ^ ((s.drop st).take (i - st)).length ≤ 10 ^ 8 := Nat.pow_le_pow_right (by decide) h2
  have : (10 : Nat) ^ 8 = 100000000 := by decide
  omega
end Go.Proofs.YthkkdepppjiaeaaGreatDoor

/- Walks of the reference of layer 1: From. -/
namespace Go.Proofs.YthkkdepppjiaeaaGreatDoor
open Go.RowKit

set_option maxRecDepth 100000 in
set_option maxHeartbeats 4000000 in
theorem re_From (s : ByteArray) (w : World) (hs : s.size ≤ 100000000) (hd : ∀ c ∈ s.data.toList, isDig c) :
    Calls Tryz.prog 56 #[.string s] w fun e w' => ∃ v, e = .returned v ∧ Own w' w.heap.size v (ws (dval s.data.toList)) ∧ Below w.heap.size w w' := by
  have hl : s.data.toList.length = s.size := by simp
  have HS := Lib.hid (FrO.start s.data.toList)
  have hst := fun o (h : FrO s.data.toList o) => h.step hd
  have hdn := fun o (h : FrO s.data.toList o) => h.done
  rw [hl] at hst hdn
  have HST := Lib.hid hst
  have HDN := Lib.hid hdn
  have hdg : ∀ i (h : i < s.size), 48 ≤ ((s[i]'h).toNat : Int) ∧ ((s[i]'h).toNat : Int) ≤ 57 ∧ (dgv (s.data.toList[i]'(by omega)) : Int) = ((s[i]'h).toNat : Int) - 48 := by
    intro i h
    have e : s.data.toList[i]'(by omega) = s[i]'h := by simp; rfl
    have := hd _ (List.getElem_mem (l := s.data.toList) (n := i) (by omega))
    rw [e] at this ⊢
    unfold isDig at this
    rw [dgv_eq]
    omega
  have HDG : Hid (∀ i (h : i < s.size), 48 ≤ ((s[i]'h).toNat : Int) ∧ ((s[i]'h).toNat : Int) ≤ 57) := Lib.hid (fun i h => ⟨(hdg i h).1, (hdg i h).2.1⟩)
  have HT : Hid (∀ st i (h : i < s.size), st ≤ i → (dval ((s.data.toList.drop st).take (i + 1 - st)) : Int) = 10 * (dval ((s.data.toList.drop st).take (i - st)) : Int) + (((s[i]'h).toNat : Int) - 48)) := Lib.hid (fun st i h hi => by
    rw [dval_take_succ s.data.toList st i (by omega) hi, ← (hdg i h).2.2]
    omega)
  have HLT := Lib.hid (fun st i => dval_take_lt s.data.toList st i hd)
  clear hst hdn hdg hl hd
  generalize s.data.toList = l at *
  obtain ⟨i0, hi, hz0, hz1, hz2⟩ := info_parts inf32
  have HO : Hid (Own w w.heap.size (.slice none 0 0) []) := Lib.hid (by exact ⟨rfl, Or.inl ⟨rfl, rfl⟩⟩)
  go_enter Tryz.func56, Tryz.ntmps56
  go_wp2
  go_loopw [3, 4] (fun v ex wr => ∃ (o : List Int), o.length ≤ s.size ∧ ex = .int .i64 ((s.size : Int) - 9 * (o.length : Int)) ∧ Hid (FrO l o) ∧ Hid (Own wr w.heap.size v o) ∧ Below w.heap.size w wr) (fun _ ex _ => (intOf ex).toNat)
  case atStart => exact ⟨[], Nat.zero_le _, by simp, HS, HO, Below.refl _ _⟩
  case round =>
    obtain ⟨o, hol, rfl, HI, HW, hBr⟩ := hrel
    have hsz := hBr.size
    by_cases h0 : 9 * o.length < s.size
    · have HN := Lib.hid (HST.out o HI.out h0)
      obtain ⟨st, hst⟩ : ∃ st, st = s.size - 9 * (o.length + 1) := ⟨_, rfl⟩
      obtain ⟨en, hen⟩ : ∃ en, en = s.size - 9 * o.length := ⟨_, rfl⟩
      rw [← hst, ← hen] at HN
      have e1 : (s.size : Int) - 9 * (o.length : Int) = (en : Int) := by omega
      have e2 : max 0 ((en : Int) - 9) = (st : Int) := by omega
      have h1 : 0 < en := by omega
      have h2 : en ≤ s.size := by omega
      have h3 : st ≤ en := by omega
      have h4 : en ≤ st + 9 := by omega
      have e3 : (en : Int) - 9 = (s.size : Int) - 9 * ((o.length : Int) + 1) := by omega
      have HE3 := Lib.hid e3
      rw [e1]
      clear e1 hst hen e3
      obtain ⟨D, hD⟩ : ∃ D : Nat → Nat, D = fun i => dval ((l.drop st).take (i - st)) := ⟨_, rfl⟩
      have d0 : D st = 0 := by rw [hD]; simp [dval_nil]
      have HDT : Hid (∀ i (h : i < s.size), st ≤ i → ((D (i + 1) : Nat) : Int) = 10 * (D i : Int) + (((s[i]'h).toNat : Int) - 48)) := Lib.hid (fun i h hi => by rw [hD]; exact HT.out st i h hi)
      have HDL : Hid (∀ i, i - st ≤ 8 → D i < 100000000) := Lib.hid (fun i h => by rw [hD]; exact HLT.out st i h)
      rw [show dval ((l.drop st).take (en - st)) = D en by rw [hD]] at HN
      have HD0 := Lib.hid d0
      clear hD d0
      go_wp2
      obtain ⟨wo, rfl⟩ : ∃ wo : World, wo = wr := ⟨_, rfl⟩
      go_loopw [5, 6] (fun wx ix wc => ∃ i : Nat, st ≤ i ∧ i ≤ en ∧ ix = .int .i64 i ∧ wx = .int .u32 (D i : Nat) ∧ wc = wo) (fun _ ix _ => en - (intOf ix).toNat)
      case atStart => exact ⟨st, Nat.le_refl _, h3, rfl, by rw [HD0.out]; rfl, rfl⟩
      case round =>
        obtain ⟨i, hi1, hi2, rfl, rfl, rfl⟩ := hrel
        by_cases h5 : i < en
        · have hdig := HDG.out i (by omega)
          have g1 := hdig.1
          have g2 := hdig.2
          have hDl := HDL.out i (by omega)
          have HD1 := Lib.hid (HDT.out i (by omega) hi1)
          have h6 : i < s.size := by omega
          clear hdig
          go_wp2
          exact ⟨⟨i + 1, by omega, by omega, by simp, by rw [HD1.out], by trivial⟩, by simp [intOf]; omega⟩
        · obtain rfl : i = en := by omega
          go_wp2_with (at_builtin; refine wpList_append_own _ rfl (.tmp 29) (.tmp 31) 41 rfl w.heap.size 101 i0 (.int .u32 0) 1 4 Tryz.underlying41 hi hz0 hz1 hz2 rfl (by decide) _ _ _ rfl (World.ownsRow.alloc HW.out _) ⟨wr.heap.size, 0, none⟩ 1 1 _ rfl rfl (one_cell _ _ _) (fun u hu => by rw [List.mem_singleton] at hu; subst hu; rfl) (by unfold maxLen; omega) (by omega) (by simp; omega) ?_; intro v' w2 hown hgrow _)
          obtain ⟨hO, hB2⟩ := HW.out.app hBr hsz hown hgrow
          exact ⟨⟨_, by simp; omega, by rw [List.length_append, List.length_singleton]; simp [HE3.out], HN, Lib.hid hO, hB2⟩, by simp [intOf]; omega⟩
    · have HT2 := Lib.hid (HDN.out o HI.out (by omega))
      obtain ⟨A', c', rfl, e2, e3, e4⟩ := HW.out.rd
      go_wp2_with fail
      refine (re_trim A' c' o _ e2 e3 e4).mono ?_
      rintro e w' ⟨rfl, rfl⟩
      go_wp2
      go_ret
      exact ⟨_, rfl, by rw [← HT2.out]; exact HW.out.trim, hBr⟩
end Go.Proofs.YthkkdepppjiaeaaGreatDoor
