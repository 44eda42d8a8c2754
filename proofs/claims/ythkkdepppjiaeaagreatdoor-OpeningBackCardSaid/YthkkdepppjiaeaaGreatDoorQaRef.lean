/- A PART OF THE PROOF, JOINED OUT OF 5 TEXTS. -/
import Derived.Test.YthkkdepppjiaeaaGreatDoorPfText
/- Walks of the reference of layer 1: trim. -/
namespace Go.Proofs.YthkkdepppjiaeaaGreatDoor
open Go.RowKit

set_option maxHeartbeats 400000 in
theorem re_trim (A : Option Addr) (c : Nat) (l : List Int) (w : World) (hlc : l.length ≤ c) (hc : c ≤ maxLen) (hr : Row w A l) :
    Calls Tryz.prog 97 #[.slice A l.length c] w fun e w' => e = .returned (.slice A (trimL l).length c) ∧ w' = w := by
  unfold maxLen at hc
  have HR := Lib.hid hr
  clear hr
  go_enter Tryz.func97, Tryz.ntmps97
  go_wp2
  go_loop [0] (fun x => ∃ k : Nat, k ≤ l.length ∧ x = .slice A k c ∧ Hid (trimL (l.take k) = trimL l)) (fun x => match x with | .slice _ k _ => k | _ => 0)
  case atStart => exact ⟨l.length, Nat.le_refl _, rfl, Lib.hid (by rw [List.take_length])⟩
  case round =>
    obtain ⟨k, hk, rfl, HK⟩ := hrel
    by_cases h0 : 0 < k
    · have hne : ¬ l = [] := by rintro rfl; simp at hk; omega
      obtain ⟨b, rfl, hcell⟩ := HR.out.resolve_left hne
      have hc1 := hcell (k - 1) (by omega)
      clear hcell hne
      by_cases hz : l.getD (k - 1) 0 = 0
      · have HZ := Lib.hid hz
        rw [hz] at hc1
        clear hz
        go_wp2
        exact ⟨⟨k - 1, by omega, by simp, Lib.hid (by
          have hl : (l.take k).length = k := by simp; omega
          have e := trim_step (l := l.take k) (by omega) (by rw [hl, List.getD_eq_getElem?_getD, List.getElem?_take_of_lt (by omega), ← List.getD_eq_getElem?_getD]; exact HZ.out)
          rw [hl, List.take_take, Nat.min_eq_left (by omega)] at e
          rw [← e]; exact HK.out)⟩, by simp; omega⟩
      · have HZ := Lib.hid hz
        have e1 : (l[k - 1]?.getD 0 == 0) = false := by rw [beq_eq_false_iff_ne, ← List.getD_eq_getElem?_getD]; exact hz
        clear hz
        go_wp2
        go_ret
        exact ⟨ret_slice (by
          have hl : (l.take k).length = k := by simp; omega
          rw [← HK.out, trim_stop, hl]
          rw [hl, List.getD_eq_getElem?_getD, List.getElem?_take_of_lt (by omega), ← List.getD_eq_getElem?_getD]
          exact .inr HZ.out), rfl⟩
    · go_wp2
      go_ret
      exact ⟨ret_slice (by
        obtain rfl : k = 0 := by omega
        rw [← HK.out]; rfl), rfl⟩
end Go.Proofs.YthkkdepppjiaeaaGreatDoor

/- Walks of the reference of layer 1: Valid. -/
namespace Go.Proofs.YthkkdepppjiaeaaGreatDoor
open Go.RowKit

set_option maxHeartbeats 800000 in
theorem re_Valid (s : ByteArray) (w : World) (hs : s.size ≤ maxLen) :
    Calls Tryz.prog 53 #[.string s] w fun e w' => e = .returned (.bool (vnB s.data.toList)) ∧ w' = w := by
  unfold maxLen at hs
  have H0 := Lib.hid (vnB_empty s)
  have HL := Lib.hid (vnB_lead s)
  have HB := Lib.hid (vnB_bad s)
  have HG := Lib.hid (vnB_good s)
  generalize vnB s.data.toList = v at *
  go_enter Tryz.func53, Tryz.ntmps53
  go_wp2
  go_loop [3] (fun i => ∃ k : Nat, k ≤ s.size ∧ i = .int .i64 k ∧ Hid (∀ j, (h : j < s.size) → j < k → 48 ≤ ((s[j]'h).toNat : Int) ∧ ((s[j]'h).toNat : Int) ≤ 57)) (fun i => s.size - (intOf i).toNat)
  case atStart => exact ⟨0, Nat.zero_le _, rfl, Lib.hid (fun j _ h => by omega)⟩
  case round =>
    obtain ⟨k, hk, rfl, HK⟩ := hrel
    by_cases hlt : k < s.size
    · by_cases hb : 48 ≤ ((s[k]'hlt).toNat : Int) ∧ ((s[k]'hlt).toNat : Int) ≤ 57
      · have hb1 := hb.1
        have hb2 := hb.2
        clear hb
        go_wp2
        go_round
        case rel => exact ⟨k + 1, by omega, by go_num, Lib.hid (fun j h hj => by
          by_cases e : j = k
          · subst e; exact ⟨hb1, hb2⟩
          · exact HK.out j h (by omega))⟩
        case measure => simp [intOf]; omega
      · have HH := Lib.hid (HB.out k hlt hb)
        by_cases hlo : ((s[k]'hlt).toNat : Int) < 48
        · clear hb
          go_wp2
          go_ret
          exact ⟨ret_bool HH.out.symm, rfl⟩
        · have hhi : 57 < ((s[k]'hlt).toNat : Int) := by omega
          clear hb
          go_wp2
          go_ret
          exact ⟨ret_bool HH.out.symm, rfl⟩
    · have HD : Hid (∀ j, (h : j < s.size) → 48 ≤ ((s[j]'h).toNat : Int) ∧ ((s[j]'h).toNat : Int) ≤ 57) := Lib.hid (fun j h => HK.out j h (by omega))
      clear HK HB
      rcases Nat.lt_trichotomy s.size 1 with h | h | h
      · have HH : Hid (v = false) := Lib.hid (H0.out (by
          rw [ByteArray.toList_eq, List.isEmpty_iff]
          exact List.eq_nil_of_length_eq_zero (by rw [Array.length_toList]; have : s.size = s.data.size := rfl; omega)))
        have d1 : ((s.size : Int) == 1) = false := by rw [beq_eq_false_iff_ne]; omega
        go_wp2
        go_ret
        exact ⟨ret_bool HH.out.symm, rfl⟩
      · have HH : Hid (v = true) := Lib.hid (HG.out (by
          rw [ByteArray.toList_eq, List.isEmpty_eq_false_iff]
          intro e
          have e2 := congrArg List.length e
          rw [Array.length_toList] at e2
          have e3 : s.size = s.data.size := rfl
          have e4 : s.data.size = 0 := e2
          omega) (.inl (by omega)) HD.out)
        have d1 : ((s.size : Int) == 1) = true := by rw [beq_iff_eq]; omega
        go_wp2
        go_ret
        exact ⟨ret_bool HH.out.symm, rfl⟩
      · have d1 : ((s.size : Int) == 1) = false := by rw [beq_eq_false_iff_ne]; omega
        by_cases hz : ((s[0]'(by omega)).toNat : Int) = 48
        · have HH : Hid (v = false) := Lib.hid (HL.out h hz)
          have e0 : (((s[0]'(by omega)).toNat : Int) == 48) = true := by rw [beq_iff_eq]; exact hz
          clear hz
          go_wp2
          go_ret
          exact ⟨ret_bool (by rw [HH.out, bne, e0]; rfl), rfl⟩
        · have HH : Hid (v = true) := Lib.hid (HG.out (by
            rw [ByteArray.toList_eq, List.isEmpty_eq_false_iff]
            intro e
            have e2 := congrArg List.length e
            rw [Array.length_toList] at e2
            have e3 : s.size = s.data.size := rfl
            have e4 : s.data.size = 0 := e2
            omega) (.inr (fun q => hz (q (Nat.lt_trans (by decide) h)))) HD.out)
          have e0 : (((s[0]'(by omega)).toNat : Int) == 48) = false := by rw [beq_eq_false_iff_ne]; exact hz
          clear hz
          go_wp2
          go_ret
          exact ⟨ret_bool (by rw [HH.out, bne, e0]; rfl), rfl⟩
end Go.Proofs.YthkkdepppjiaeaaGreatDoor

/- Walks of the reference of layer 1: Small, Cmp. -/
namespace Go.Proofs.YthkkdepppjiaeaaGreatDoor
open Go.RowKit

set_option maxHeartbeats 800000 in
theorem re_Small (x : Int) (w : World) (h0 : 0 ≤ x) (h1 : x < 4294967296) :
    Calls Tryz.prog 57 #[.int .u32 x] w fun e w' => ∃ v, e = .returned v ∧ Own w' w.heap.size v (ws x.toNat) ∧ Below w.heap.size w w' := by
  have HO := Lib.hid (Own.new w [x % 1000000000, x / 1000000000] (by simp [maxLen]))
  have HR := Lib.hid HO.out.rd
  have HE := Lib.hid (of_words x h0 (by omega))
  go_enter Tryz.func57, Tryz.ntmps57
  go_wp2_with fail
  obtain ⟨A, c, e1, e2, e3, e4⟩ := HR.out
  simp only [Value.slice.injEq] at e1
  obtain ⟨rfl, _, rfl⟩ := e1
  refine (re_trim _ 2 [x % 1000000000, x / 1000000000] _ (by simp) (by simp [maxLen]) e4).mono ?_
  rintro e w' ⟨rfl, rfl⟩
  go_wp2
  go_ret
  exact ⟨_, rfl, by rw [← HE.out]; exact HO.out.trim, (Below.refl _ _).alloc (Nat.le_refl _) _⟩

theorem cmp_lt {x y : Int} (h : x < y) : cmpI x y = -1 := if_pos h
theorem cmp_gt {x y : Int} (h : y < x) : cmpI x y = 1 := by unfold cmpI; rw [if_neg (by omega), if_pos h]

set_option maxRecDepth 100000 in
set_option maxHeartbeats 2000000 in
theorem re_Cmp (va vb : Value) (a b : List Int) (w : World) (hA : Rd w va a) (hB : Rd w vb b) (ha : Can a) (hb : Can b) :
    Calls Tryz.prog 58 #[va, vb] w fun e w' => e = .returned (.int .i64 (cmpI (wval a) (wval b))) ∧ ∃ n, w' = w.drewN n := by
  obtain ⟨A, c, rfl, a1, a2, a3⟩ := hA
  obtain ⟨B, d, rfl, b1, b2, b3⟩ := hB
  unfold maxLen at a2 b2
  by_cases hl : a.length = b.length
  · have AC := Lib.hid (agree_cmp ha.1 hb.1 hl)
    have AA := Lib.hid (agree_all (a := a) (b := b))
    have GA := Lib.hid ha.1.getD
    have GB := Lib.hid hb.1.getD
    have HL := Lib.hid hl
    have RA := Lib.hid a3
    have RB := Lib.hid b3
    have AT : Hid (Agree a b a.length) := Lib.hid (by unfold Agree; rw [List.drop_length, hl, List.drop_length])
    have e0 : ((a.length : Int) != b.length) = false := by simp [hl]
    generalize cmpI (wval a) (wval b) = v at *
    have hle : a.length ≤ b.length := by omega
    clear hl a3 b3 ha hb
    go_enter Tryz.func58, Tryz.ntmps58
    go_wp2
    go_loopw [5] (fun i wr => ∃ k : Nat, k ≤ a.length ∧ i = .int .i64 ((k : Int) - 1) ∧ Hid (Agree a b k) ∧ ∃ n, wr = w.drewN n) (fun i _ => (intOf i + 1).toNat)
    case atStart => exact ⟨a.length, Nat.le_refl _, rfl, AT, 0, rfl⟩
    case round =>
      obtain ⟨k, hk, rfl, HK, n, rfl⟩ := hrel
      by_cases h0 : 0 < k
      · obtain ⟨j, rfl⟩ : ∃ j, k = j + 1 := ⟨k - 1, by omega⟩
        obtain ⟨x, rfl, hx⟩ := RA.out.at_ (by omega)
        obtain ⟨y, rfl, hy⟩ := RB.out.at_ (by omega)
        have cx := hx j (by omega)
        have cy := hy j (by omega)
        have gx := GA.out j
        have gy := GB.out j
        rw [List.getD_eq_getElem?_getD] at gx gy
        have gx1 := gx.1; have gx2 := gx.2; have gy1 := gy.1; have gy2 := gy.2
        have HC := Lib.hid (AC.out j (by omega) HK.out)
        clear hx hy gx gy
        generalize a[j]?.getD 0 = xa at *
        generalize b[j]?.getD 0 = xb at *
        rcases Int.lt_trichotomy xa xb with he | he | he
        · have HE := Lib.hid ((HC.out.2 (by omega)).symm.trans (cmp_lt he))
          go_wp2
          go_quiet (fail)
          go_wp2
          go_ret
          exact ⟨ret_int HE.out.symm, _, by rw [World.drewN_drewN]⟩
        · have HE := Lib.hid (HC.out.1 he)
          subst he
          go_wp2
          go_quiet (fail)
          go_wp2
          go_quiet (fail)
          go_wp2
          exact ⟨⟨j, by omega, by simp, HE, _, rfl⟩, by simp [intOf]⟩
        · have HE := Lib.hid ((HC.out.2 (by omega)).symm.trans (cmp_gt he))
          have hn : ¬ xa < xb := by omega
          go_wp2
          go_quiet (fail)
          go_wp2
          go_quiet (fail)
          go_wp2
          go_ret
          exact ⟨ret_int HE.out.symm, _, by rw [World.drewN_drewN, World.drewN_drewN]⟩
      · obtain rfl : k = 0 := by omega
        go_wp2
        go_ret
        exact ⟨ret_int (AA.out HK.out).symm, _, rfl⟩
  · have HC := Lib.hid (cmpI_len ha hb hl)
    have e0 : ((a.length : Int) != b.length) = true := by rw [bne_iff_ne]; omega
    clear ha hb a3 b3
    by_cases hlt : a.length < b.length
    · have HE := Lib.hid (HC.out.symm.trans (cmp_lt (by omega)))
      clear hl
      go_enter Tryz.func58, Tryz.ntmps58
      go_wp2
      go_ret
      exact ⟨ret_int HE.out.symm, 0, rfl⟩
    · have HE := Lib.hid (HC.out.symm.trans (cmp_gt (by omega)))
      have hgt : b.length < a.length := by omega
      clear hl
      go_enter Tryz.func58, Tryz.ntmps58
      go_wp2
      go_ret
      exact ⟨ret_int HE.out.symm, 0, rfl⟩
end Go.Proofs.YthkkdepppjiaeaaGreatDoor

/- Walks of the reference of layer 1: word, wide. -/
namespace Go.Proofs.YthkkdepppjiaeaaGreatDoor
open Go.RowKit

theorem wide_words (x : Int) (h0 : 0 ≤ x) (h1 : x < 1000000000000000000) : trimL [x % 1000000000, x / 1000000000 % 1000000000, x / 1000000000 / 1000000000] = ws x.toNat := by
  refine ws_trim (fun y hy => ?_) ?_
  · simp only [List.mem_cons, List.not_mem_nil, or_false] at hy
    rcases hy with rfl | rfl | rfl <;> omega
  · simp [wval]; omega

set_option maxHeartbeats 800000 in
theorem re_wide (x : Int) (w : World) (h0 : 0 ≤ x) (h1 : x < 1000000000000000000) :
    Calls Tryz.prog 99 #[.int .u64 x] w fun e w' => ∃ v, e = .returned v ∧ Own w' w.heap.size v (ws x.toNat) ∧ Below w.heap.size w w' := by
  have HO := Lib.hid (Own.new w [x % 1000000000, x / 1000000000 % 1000000000, x / 1000000000 / 1000000000] (by simp [maxLen]))
  have HR := Lib.hid HO.out.rd
  have HE := Lib.hid (wide_words x h0 h1)
  go_enter Tryz.func99, Tryz.ntmps99
  go_wp2_with fail
  obtain ⟨A, c, e1, e2, e3, e4⟩ := HR.out
  simp only [Value.slice.injEq] at e1
  obtain ⟨rfl, _, rfl⟩ := e1
  refine (re_trim _ 3 [x % 1000000000, x / 1000000000 % 1000000000, x / 1000000000 / 1000000000] _ (by simp) (by simp [maxLen]) e4).mono ?_
  rintro e w' ⟨rfl, rfl⟩
  go_wp2
  go_ret
  exact ⟨_, rfl, by rw [← HE.out]; exact HO.out.trim, (Below.refl _ _).alloc (Nat.le_refl _) _⟩

set_option maxHeartbeats 800000 in
theorem re_word (va : Value) (l : List Int) (w : World) (hA : Rd w va l) (h2 : l.length ≤ 2) (hk : WOk l) :
    Calls Tryz.prog 98 #[va] w fun e w' => e = .returned (.int .u64 (wval l)) ∧ w' = w := by
  obtain ⟨A, c, rfl, a1, a2, hr⟩ := hA
  match l, h2 with
  | [], _ =>
    clear hr hk
    go_enter Tryz.func98, Tryz.ntmps98
    go_wp2
    go_loop [3, 4] (fun o i => o = .int .u64 0 ∧ i = .int .i64 (-1)) (fun _ _ => 0)
    case atStart => exact ⟨rfl, rfl⟩
    case round =>
      obtain ⟨rfl, rfl⟩ := hrel
      go_wp2
      go_ret
      exact ⟨rfl, rfl⟩
  | [x], _ =>
    obtain ⟨b, rfl, hc⟩ := hr.at_ (by simp)
    have c0 := hc 0 (by simp)
    have g0 := hk x (by simp)
    have b0 := g0.1; have b1 := g0.2
    simp only [List.getElem?_cons_zero, Option.getD_some] at c0
    clear hc hr hk g0
    go_enter Tryz.func98, Tryz.ntmps98
    go_wp2
    go_loop [3, 4] (fun o i => (o = .int .u64 0 ∧ i = .int .i64 0) ∨ (o = .int .u64 x ∧ i = .int .i64 (-1))) (fun _ i => (intOf i + 1).toNat)
    case atStart => exact Or.inl ⟨rfl, rfl⟩
    case round =>
      rcases hrel with ⟨rfl, rfl⟩ | ⟨rfl, rfl⟩
      · go_wp2
        go_round
        case rel => exact Or.inr ⟨by go_num, rfl⟩
        case measure => decide
      · go_wp2
        go_ret
        exact ⟨by simp [wval], rfl⟩
  | [x, y], _ =>
    obtain ⟨b, rfl, hc⟩ := hr.at_ (by simp)
    have c0 := hc 0 (by simp)
    have c1 := hc 1 (by simp)
    have g0 := hk x (by simp)
    have g1 := hk y (by simp)
    have b0 := g0.1; have b1 := g0.2; have b2 := g1.1; have b3 := g1.2
    simp only [List.getElem?_cons_zero, List.getElem?_cons_succ, Option.getD_some] at c0 c1
    clear hc hr hk g0 g1
    go_enter Tryz.func98, Tryz.ntmps98
    go_wp2
    go_loop [3, 4] (fun o i => (o = .int .u64 0 ∧ i = .int .i64 1) ∨ (o = .int .u64 y ∧ i = .int .i64 0) ∨ (o = .int .u64 (y * 1000000000 + x) ∧ i = .int .i64 (-1))) (fun _ i => (intOf i + 1).toNat)
    case atStart => exact Or.inl ⟨rfl, rfl⟩
    case round =>
      rcases hrel with ⟨rfl, rfl⟩ | ⟨rfl, rfl⟩ | ⟨rfl, rfl⟩
      · go_wp2
        go_round
        case rel => exact Or.inr (Or.inl ⟨by go_num, rfl⟩)
        case measure => decide
      · go_wp2
        go_round
        case rel => exact Or.inr (Or.inr ⟨by go_num, rfl⟩)
        case measure => decide
      · go_wp2
        go_ret
        exact ⟨ret_int (by simp [wval]; omega), rfl⟩
end Go.Proofs.YthkkdepppjiaeaaGreatDoor

/- Walks of the reference of layer 1: Plus. -/
namespace Go.Proofs.YthkkdepppjiaeaaGreatDoor
open Go.RowKit

set_option maxRecDepth 100000 in
set_option maxHeartbeats 4000000 in
theorem re_Plus (va vb : Value) (n m : Nat) (w : World) (hA : Rd w va (ws n)) (hB : Rd w vb (ws m)) (hm : (ws n).length ≤ 400000000) (hn : (ws m).length ≤ 400000000) :
    Calls Tryz.prog 106 #[va, vb] w fun e w' => ∃ v, e = .returned v ∧ Own w' w.heap.size v (ws (n + m)) ∧ Below w.heap.size w w' := by
  have ha := ws_can n
  have hb := ws_can m
  have en := ws_val n
  have em := ws_val m
  generalize ws n = a at *
  generalize ws m = b at *
  obtain ⟨A, c, rfl, a1, a2, a3⟩ := hA
  obtain ⟨B, d, rfl, b1, b2, b3⟩ := hB
  unfold maxLen at a2 b2
  have OA := Lib.hid ha.1
  have OB := Lib.hid hb.1
  have RA := Lib.hid a3
  have RB := Lib.hid b3
  have HS := Lib.hid (MgI.start a b 1)
  have HD : Hid (∀ o i, a.length ≤ i → b.length ≤ i → MgI a b o 1 i 0 → WOk o ∧ trimL o = ws (n + m)) := Lib.hid (fun o i h1 h2 h => by
    have he := h.eq
    rw [List.take_of_length_le h1, List.take_of_length_le h2] at he
    exact ⟨h.ok, ws_trim h.ok (by omega)⟩)
  obtain ⟨i0, hi, hz0, hz1, hz2⟩ := info_parts inf32
  have HO : Hid (Own w w.heap.size (.slice none 0 0) []) := Lib.hid (by exact ⟨rfl, Or.inl ⟨rfl, rfl⟩⟩)
  obtain ⟨N, hN⟩ : ∃ N, N = max a.length b.length := ⟨_, rfl⟩
  have hNa : a.length ≤ N := by omega
  have hNb : b.length ≤ N := by omega
  have hNm : N ≤ 400000000 := by omega
  have hNo : ∀ i, ¬ i < a.length → ¬ i < b.length → N ≤ i := fun i _ _ => by omega
  clear a3 b3 ha hb en em hN
  go_enter Tryz.func106, Tryz.ntmps106
  go_wp2
  go_loopw [5, 6, 7] (fun v cx ix wr => ∃ (i : Nat) (o : List Int) (c : Int), (i ≤ N ∨ i = N + 1 ∧ c = 0) ∧ ix = .int .i64 i ∧ cx = .int .u32 c ∧ 0 ≤ c ∧ Hid (MgI a b o 1 i c) ∧ Hid (Own wr w.heap.size v o) ∧ Below w.heap.size w wr) (fun _ _ ix _ => N + 1 - (intOf ix).toNat)
  case atStart => exact ⟨0, [], 0, Or.inl (Nat.zero_le _), rfl, rfl, by decide, HS, HO, Below.refl _ _⟩
  case round =>
    obtain ⟨i, o, cr, hiN, rfl, rfl, hc0, HI, HW, hBr⟩ := hrel
    have hsz := hBr.size
    have hc1 := HI.out.c1
    have gx := OA.out.getD i
    have gy := OB.out.getD i
    rw [List.getD_eq_getElem?_getD] at gx gy
    have gx0 := gx.1
    have gx1 := gx.2
    have gy0 := gy.1
    have gy1 := gy.2
    have hol := HI.out.len
    have hle : o.length ≤ 400000001 := by omega
    have HL := Lib.hid hol
    clear gx gy hol
    have ST : Hid (∀ q r : Int, 0 ≤ r → r < 1000000000 → q * 1000000000 + r = cr + a[i]?.getD 0 + 1 * b[i]?.getD 0 → MgI a b (o ++ [r]) 1 (i + 1) q) := Lib.hid (fun q r h0 h1 h2 => HI.out.step OA.out OB.out (Or.inl rfl) h0 h1 h2)
    have NA : ¬ i < a.length → a[i]?.getD 0 = 0 := fun h => by rw [List.getElem?_eq_none (by omega)]; rfl
    have NB : ¬ i < b.length → b[i]?.getD 0 = 0 := fun h => by rw [List.getElem?_eq_none (by omega)]; rfl
    by_cases ca : i < a.length
    · obtain ⟨ba, rfl, hc⟩ := (RA.out.below hBr).at_ (by omega)
      have cx := hc i ca
      clear hc NA
      generalize a[i]?.getD 0 = x at *
      by_cases cb : i < b.length
      · obtain ⟨bb, rfl, hc⟩ := (RB.out.below hBr).at_ (by omega)
        have cy := hc i cb
        clear hc NB
        generalize b[i]?.getD 0 = y at *
        clear hNo
        go_wp2_with (at_builtin; refine wpList_append_own _ rfl (.tmp 46) (.tmp 49) 41 rfl w.heap.size 101 i0 (.int .u32 0) 1 4 Tryz.underlying41 hi hz0 hz1 hz2 rfl (by decide) _ _ _ rfl (World.ownsRow.alloc HW.out _) ⟨wr.heap.size, 0, none⟩ 1 1 _ rfl rfl (one_cell _ _ _) (fun u hu => by rw [List.mem_singleton] at hu; subst hu; rfl) (by unfold maxLen; omega) (by omega) (by simp; omega) ?_; intro v' w2 hown hgrow _)
        obtain ⟨hO, hB2⟩ := HW.out.app hBr hsz hown hgrow
        exact ⟨⟨i + 1, _, _, Or.inl (by omega), by simp, rfl, by omega, Lib.hid (ST.out _ _ (by omega) (by omega) (by omega)), Lib.hid hO, hB2⟩, by simp [intOf]; omega⟩
      · have ey := NB cb
        clear NB
        rw [ey] at ST
        clear ey gy0 gy1 hNo
        go_wp2_with (at_builtin; refine wpList_append_own _ rfl (.tmp 46) (.tmp 49) 41 rfl w.heap.size 101 i0 (.int .u32 0) 1 4 Tryz.underlying41 hi hz0 hz1 hz2 rfl (by decide) _ _ _ rfl (World.ownsRow.alloc HW.out _) ⟨wr.heap.size, 0, none⟩ 1 1 _ rfl rfl (one_cell _ _ _) (fun u hu => by rw [List.mem_singleton] at hu; subst hu; rfl) (by unfold maxLen; omega) (by omega) (by simp; omega) ?_; intro v' w2 hown hgrow _)
        obtain ⟨hO, hB2⟩ := HW.out.app hBr hsz hown hgrow
        exact ⟨⟨i + 1, _, _, Or.inl (by omega), by simp, rfl, by omega, Lib.hid (ST.out _ _ (by omega) (by omega) (by omega)), Lib.hid hO, hB2⟩, by simp [intOf]; omega⟩
    · have ex := NA ca
      clear NA
      rw [ex] at ST
      clear ex gx0 gx1
      by_cases cb : i < b.length
      · obtain ⟨bb, rfl, hc⟩ := (RB.out.below hBr).at_ (by omega)
        have cy := hc i cb
        clear hc NB
        generalize b[i]?.getD 0 = y at *
        clear hNo
        go_wp2_with (at_builtin; refine wpList_append_own _ rfl (.tmp 46) (.tmp 49) 41 rfl w.heap.size 101 i0 (.int .u32 0) 1 4 Tryz.underlying41 hi hz0 hz1 hz2 rfl (by decide) _ _ _ rfl (World.ownsRow.alloc HW.out _) ⟨wr.heap.size, 0, none⟩ 1 1 _ rfl rfl (one_cell _ _ _) (fun u hu => by rw [List.mem_singleton] at hu; subst hu; rfl) (by unfold maxLen; omega) (by omega) (by simp; omega) ?_; intro v' w2 hown hgrow _)
        obtain ⟨hO, hB2⟩ := HW.out.app hBr hsz hown hgrow
        exact ⟨⟨i + 1, _, _, Or.inl (by omega), by simp, rfl, by omega, Lib.hid (ST.out _ _ (by omega) (by omega) (by omega)), Lib.hid hO, hB2⟩, by simp [intOf]; omega⟩
      · have ey := NB cb
        clear NB
        rw [ey] at ST
        clear ey gy0 gy1
        have hge := hNo i ca cb
        clear hNo
        by_cases h0 : 0 < cr
        · obtain rfl : cr = 1 := by omega
          go_wp2_with (at_builtin; refine wpList_append_own _ rfl (.tmp 46) (.tmp 49) 41 rfl w.heap.size 101 i0 (.int .u32 0) 1 4 Tryz.underlying41 hi hz0 hz1 hz2 rfl (by decide) _ _ _ rfl (World.ownsRow.alloc HW.out _) ⟨wr.heap.size, 0, none⟩ 1 1 _ rfl rfl (one_cell _ _ _) (fun u hu => by rw [List.mem_singleton] at hu; subst hu; rfl) (by unfold maxLen; omega) (by omega) (by simp; omega) ?_; intro v' w2 hown hgrow _)
          obtain ⟨hO, hB2⟩ := HW.out.app hBr hsz hown hgrow
          exact ⟨⟨i + 1, _, _, Or.inr ⟨by omega, by decide⟩, by simp, rfl, by omega, Lib.hid (ST.out _ _ (by omega) (by omega) (by omega)), Lib.hid hO, hB2⟩, by simp [intOf]; omega⟩
        · obtain rfl : cr = 0 := by omega
          have hd := HD.out o i (by omega) (by omega) HI.out
          have HOk := Lib.hid hd.1
          have HT := Lib.hid hd.2
          have HR := HW.out.rd
          obtain ⟨A', c', rfl, e2, e3, e4⟩ := HR
          clear hd ST
          go_wp2_with fail
          refine (re_trim A' c' o _ e2 e3 e4).mono ?_
          rintro e w' ⟨rfl, rfl⟩
          go_wp2
          go_ret
          exact ⟨_, rfl, by rw [← HT.out]; exact HW.out.trim, hBr⟩
end Go.Proofs.YthkkdepppjiaeaaGreatDoor
