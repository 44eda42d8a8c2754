/- A PART OF THE PROOF, JOINED OUT OF 4 TEXTS. -/
import Derived.Test.YthkkdepppjiaeaaGreatDoorPaDigits
/- Walks of the program's package natural: small, of, compare. -/
namespace Go.Proofs.YthkkdepppjiaeaaGreatDoor
open Go.RowKit

theorem Row.at_ {w : World} {A : Option Addr} {l : List Int} (h : Row w A l) (h0 : 0 < l.length) : ∃ b, A = some ⟨b, 0, none⟩ ∧ ∀ j, j < l.length → w.cell? ⟨b, j, none⟩ = some (.int .u32 (l[j]?.getD 0)) := by
  rcases h with rfl | ⟨b, rfl, h⟩
  · simp at h0
  · exact ⟨b, rfl, fun j hj => by rw [h j hj, List.getD_eq_getElem?_getD]⟩

theorem wval_one {l : List Int} (h : l.length = 1) : wval l = l[0]?.getD 0 := by
  match l, h with
  | [x], _ => simp [wval]
theorem wval_two {l : List Int} (h : l.length = 2) : wval l = l[0]?.getD 0 + 1000000000 * l[1]?.getD 0 := by
  match l, h with
  | [x, y], _ => simp [wval]

set_option maxHeartbeats 400000 in
theorem na_small (A : Option Addr) (c : Nat) (l : List Int) (w : World) (hlm : l.length ≤ maxLen) (hr : Row w A l) (hk : WOk l) :
    Calls Tryz.prog 246 #[.slice A l.length c] w fun e w' =>
      e = .returned (.tuple #[.int .u64 (if l.length ≤ 2 then wval l else 0), .bool (decide (l.length ≤ 2))]) ∧ ∃ n, w' = w.drewN n := by
  unfold maxLen at hlm
  by_cases h0 : l.length = 0
  · obtain rfl := List.eq_nil_of_length_eq_zero h0
    clear h0 hr hk
    go_enter Tryz.func246, Tryz.ntmps246
    go_wp2
    go_ret2
    exact ⟨by simp [wval], 0, rfl⟩
  · obtain ⟨b, rfl, hc⟩ := hr.at_ (by omega)
    have g0 := hk.getD 0
    have g1 := hk.getD 1
    rw [List.getD_eq_getElem?_getD] at g0 g1
    have b0 := g0.1; have b1 := g0.2; have b2 := g1.1; have b3 := g1.2
    clear g0 g1 hk hr
    by_cases h1 : l.length = 1
    · have c0 := hc 0 (by omega)
      have e0 := wval_one h1
      rw [h1, e0]
      clear hc h0 h1 e0
      go_enter Tryz.func246, Tryz.ntmps246
      go_wp2
      go_ret2
      exact ⟨by simp, 0, rfl⟩
    · by_cases h2 : l.length = 2
      · have c0 := hc 0 (by omega)
        have c1 := hc 1 (by omega)
        have e0 := wval_two h2
        rw [h2, e0]
        clear hc h0 h1 h2 e0
        go_enter Tryz.func246, Tryz.ntmps246
        go_wp2
        go_quiet (fail)
        go_wp2
        go_ret2
        exact ⟨by simp, _, rfl⟩
      · have hgt : 3 ≤ l.length := by omega
        have d0 : ((l.length : Int) == 0) = false := by rw [beq_eq_false_iff_ne]; omega
        have d1 : ((l.length : Int) == 1) = false := by rw [beq_eq_false_iff_ne]; omega
        have d2 : ((l.length : Int) == 2) = false := by rw [beq_eq_false_iff_ne]; omega
        rw [if_neg (by omega), decide_eq_false (by omega)]
        clear hc h0 h1 h2
        go_enter Tryz.func246, Tryz.ntmps246
        go_wp2
        go_ret2
        exact ⟨rfl, 0, rfl⟩

theorem add_plain (g j : Nat) : (⟨g, 0, none⟩ : Addr).add j = ⟨g, j, none⟩ := by unfold Addr.add; split <;> simp_all

/-- A slice of the call's own that holds words: nil, or the head of a row beyond a block number. -/
def Own (w : World) (base : Nat) (v : Value) (l : List Int) : Prop := w.ownsRow base 101 1 v l.length (l.map (Value.int .u32))
/-- A slice that can be read as words. -/
def Rd (w : World) (v : Value) (l : List Int) : Prop := ∃ A c, v = .slice A l.length c ∧ l.length ≤ c ∧ c ≤ maxLen ∧ Row w A l

theorem Own.rd {w : World} {base : Nat} {v : Value} {l : List Int} (h : Own w base v l) : Rd w v l := by
  obtain ⟨h1, h2⟩ := h
  rcases h2 with ⟨rfl, h0⟩ | ⟨g, cap, cur, rfl, hb, hh, hn, hc, hs, ht⟩
  · obtain rfl := List.eq_nil_of_length_eq_zero h0
    exact ⟨none, 0, rfl, Nat.le_refl _, by unfold maxLen; omega, Row.nil _ _⟩
  · refine ⟨_, _, rfl, hn, hc, .inr ⟨g, rfl, fun j hj => ?_⟩⟩
    have := World.ownsRow.cells (w := w) (base := base) (e := 101) (size := 1) (v := .slice (some ⟨g, 0, none⟩) l.length cap) (n := l.length) (xs := l.map (Value.int .u32)) ⟨h1, .inr ⟨g, cap, cur, rfl, hb, hh, hn, hc, hs, ht⟩⟩ (g := g) rfl j (.int .u32 (l.getD j 0)) (by
      rw [List.getElem?_map, List.getElem?_eq_getElem hj]; simp [List.getD_eq_getElem?_getD, List.getElem?_eq_getElem hj])
    have ha := add_plain g j
    rwa [ha] at this

theorem Own.take {w : World} {base : Nat} {A : Option Addr} {c : Nat} {l : List Int} (h : Own w base (.slice A l.length c) l) (k : Nat) (hk : k ≤ l.length) : Own w base (.slice A k c) (l.take k) := by
  have hl : (l.take k).length = k := by simp; omega
  obtain ⟨h1, h2⟩ := h
  refine ⟨by simp, ?_⟩
  rw [hl]
  rcases h2 with ⟨e, h0⟩ | ⟨g, cap, cur, e, hb, hh, hn, hc, hs, ht⟩
  · simp only [Value.slice.injEq] at e
    obtain ⟨rfl, _, rfl⟩ := e
    have : k = 0 := by omega
    subst this
    exact .inl ⟨rfl, rfl⟩
  · simp only [Value.slice.injEq] at e
    obtain ⟨rfl, _, rfl⟩ := e
    refine .inr ⟨g, c, cur, rfl, hb, hh, by omega, hc, hs, ?_⟩
    rw [List.map_take, ← ht, List.take_take]
    congr 1; omega

theorem trimL_take (l : List Int) : trimL l = l.take (trimL l).length := by
  suffices H : ∀ (k : Nat) (l : List Int), l.length = k → trimL l = l.take (trimL l).length from H _ l rfl
  intro k
  induction k with
  | zero => intro l hl; rw [List.eq_nil_of_length_eq_zero hl]; rfl
  | succ k ih =>
    intro l hl
    rcases List.eq_nil_or_concat l with rfl | ⟨m, c, rfl⟩
    · simp at hl
    · rw [List.concat_eq_append] at *
      by_cases hc : c = 0
      · subst hc
        have h1 := ih m (by simpa using hl)
        have h2 := trimL_len m
        rw [trimL_snoc_zero, List.take_append_of_le_length h2, ← h1]
      · rw [trimL_snoc m c hc, List.take_length]

theorem Own.trim {w : World} {base : Nat} {A : Option Addr} {c : Nat} {l : List Int} (h : Own w base (.slice A l.length c) l) : Own w base (.slice A (trimL l).length c) (trimL l) := by
  have := h.take (trimL l).length (trimL_len l)
  rwa [← trimL_take] at this
theorem Row.take {w : World} {A : Option Addr} {l : List Int} (h : Row w A l) (k : Nat) : Row w A (l.take k) := by
  rcases h with rfl | ⟨b, rfl, h⟩
  · exact .inl (by simp)
  · refine .inr ⟨b, rfl, fun j hj => ?_⟩
    have hj' : j < k ∧ j < l.length := by simp at hj; omega
    rw [h j hj'.2, List.getD_eq_getElem?_getD, List.getD_eq_getElem?_getD, List.getElem?_take_of_lt hj'.1]
theorem Row.trim {w : World} {A : Option Addr} {l : List Int} (h : Row w A l) : Row w A (trimL l) := by
  rw [trimL_take]; exact h.take _
theorem Rd.below {w w' : World} {v : Value} {l : List Int} (h : Rd w v l) (hb : Below w.heap.size w w') : Rd w' v l := by
  obtain ⟨A, c, e, h1, h2, h3⟩ := h
  exact ⟨A, c, e, h1, h2, h3.below hb⟩
theorem Own.below {w w' : World} {base : Nat} {v : Value} {l : List Int} (h : Own w base v l) (hb : Below w.heap.size w w') : Own w' base v l := by
  obtain ⟨h1, h2⟩ := h
  refine ⟨h1, ?_⟩
  rcases h2 with h2 | ⟨g, cap, cur, e, hb', hh, r⟩
  · exact .inl h2
  · exact .inr ⟨g, cap, cur, e, hb', by rw [hb.block g (Array.getElem?_eq_some_iff.1 hh).1]; exact hh, r⟩
theorem Own.mono {w : World} {base base' : Nat} {v : Value} {l : List Int} (h : Own w base v l) (hb : base' ≤ base) : Own w base' v l := by
  obtain ⟨h1, h2⟩ := h
  refine ⟨h1, ?_⟩
  rcases h2 with h2 | ⟨g, cap, cur, e, hb', r⟩
  · exact .inl h2
  · exact .inr ⟨g, cap, cur, e, by omega, r⟩
/-- A block that was just made. -/
theorem Own.new (w : World) (l : List Int) (hl : l.length ≤ maxLen) : Own (w.alloc (.cells (l.map (Value.int .u32)).toArray 101)) w.heap.size (.slice (some ⟨w.heap.size, 0, none⟩) l.length l.length) l := by
  refine ⟨by simp, .inr ⟨w.heap.size, l.length, (l.map (Value.int .u32)).toArray, rfl, Nat.le_refl _, ?_, Nat.le_refl _, hl, by simp, by rw [List.take_of_length_le (by simp)]⟩⟩
  exact heap_alloc_new _ _
theorem of_words (x : Int) (h0 : 0 ≤ x) (h1 : x < 1000000000000000000) : trimL [x % 1000000000, x / 1000000000] = ws x.toNat := by
  refine ws_trim (fun y hy => ?_) ?_
  · simp only [List.mem_cons, List.not_mem_nil, or_false] at hy
    rcases hy with rfl | rfl <;> omega
  · simp [wval]; omega

set_option maxHeartbeats 400000 in
theorem na_of (x : Int) (w : World) (h0 : 0 ≤ x) (h1 : x < 1000000000000000000) :
    Calls Tryz.prog 247 #[.int .u64 x] w fun e w' => ∃ v, e = .returned v ∧ Own w' w.heap.size v (ws x.toNat) ∧ Below w.heap.size w w' := by
  have HO := Lib.hid (Own.new w [x % 1000000000, x / 1000000000] (by simp [maxLen]))
  have HR := Lib.hid HO.out.rd
  have HE := Lib.hid (of_words x h0 h1)
  go_enter Tryz.func247, Tryz.ntmps247
  go_wp2_with fail
  obtain ⟨A, c, e1, e2, e3, e4⟩ := HR.out
  simp only [Value.slice.injEq] at e1
  obtain ⟨rfl, _, rfl⟩ := e1
  refine (na_trim _ 2 [x % 1000000000, x / 1000000000] _ (by simp) (by simp [maxLen]) e4).mono ?_
  rintro e w' ⟨rfl, rfl⟩
  go_wp2
  go_ret
  exact ⟨_, rfl, by rw [← HE.out]; exact HO.out.trim, (Below.refl _ _).alloc (Nat.le_refl _) _⟩
end Go.Proofs.YthkkdepppjiaeaaGreatDoor

/- Walks of the program's package natural: compare. -/
namespace Go.Proofs.YthkkdepppjiaeaaGreatDoor
open Go.RowKit

/-- -1, 0 or 1. -/
def cmpI (a b : Int) : Int := if a < b then -1 else if b < a then 1 else 0

set_option maxHeartbeats 400000 in
theorem cmp_int (a b : Int) (w : World) (_ : -9223372036854775808 ≤ a) (_ : a ≤ 9223372036854775807) (_ : -9223372036854775808 ≤ b) (_ : b ≤ 9223372036854775807) :
    Calls Tryz.prog 263 #[.int .i64 a, .int .i64 b] w fun e w' => e = .returned (.int .i64 (cmpI a b)) ∧ w' = w := by
  by_cases h : a < b
  · have e : cmpI a b = -1 := if_pos h
    rw [e]
    clear e
    go_enter Tryz.func263, Tryz.ntmps263
    go_wp2
    go_ret
    exact ⟨rfl, rfl⟩
  · by_cases h2 : b < a
    · have e : cmpI a b = 1 := by unfold cmpI; rw [if_neg h, if_pos h2]
      rw [e]
      clear e
      go_enter Tryz.func263, Tryz.ntmps263
      go_wp2
      go_ret
      exact ⟨rfl, rfl⟩
    · have e : cmpI a b = 0 := by unfold cmpI; rw [if_neg h, if_neg h2]
      rw [e]
      clear e
      go_enter Tryz.func263, Tryz.ntmps263
      go_wp2
      go_ret
      exact ⟨rfl, rfl⟩

set_option maxHeartbeats 400000 in
theorem cmp_u32 (a b : Int) (w : World) (_ : 0 ≤ a) (_ : a < 1000000000) (_ : 0 ≤ b) (_ : b < 1000000000) :
    Calls Tryz.prog 264 #[.int .u32 a, .int .u32 b] w fun e w' => e = .returned (.int .i64 (cmpI a b)) ∧ w' = w := by
  by_cases h : a < b
  · have e : cmpI a b = -1 := if_pos h
    rw [e]
    clear e
    go_enter Tryz.func264, Tryz.ntmps264
    go_wp2
    go_ret
    exact ⟨rfl, rfl⟩
  · by_cases h2 : b < a
    · have e : cmpI a b = 1 := by unfold cmpI; rw [if_neg h, if_pos h2]
      rw [e]
      clear e
      go_enter Tryz.func264, Tryz.ntmps264
      go_wp2
      go_ret
      exact ⟨rfl, rfl⟩
    · have e : cmpI a b = 0 := by unfold cmpI; rw [if_neg h, if_neg h2]
      rw [e]
      clear e
      go_enter Tryz.func264, Tryz.ntmps264
      go_wp2
      go_ret
      exact ⟨rfl, rfl⟩

theorem cmpI_len {a b : List Int} (ha : Can a) (hb : Can b) (h : a.length ≠ b.length) : cmpI a.length b.length = cmpI (wval a) (wval b) := by
  unfold cmpI
  rcases Nat.lt_or_gt_of_ne h with h | h
  · have := ha.len_lt hb h
    rw [if_pos (by omega), if_pos this]
  · have := hb.len_lt ha h
    rw [if_neg (by omega), if_pos (by omega), if_neg (by omega), if_pos (by omega)]

/-- The lists agree from place k on. -/
def Agree (a b : List Int) (k : Nat) : Prop := a.drop k = b.drop k
theorem agree_cmp {a b : List Int} (ha : WOk a) (hb : WOk b) (hl : a.length = b.length) (k : Nat) (hk : k < a.length) (h : Agree a b (k + 1)) :
    (a[k]?.getD 0 = b[k]?.getD 0 → Agree a b k) ∧ (a[k]?.getD 0 ≠ b[k]?.getD 0 → cmpI (a[k]?.getD 0) (b[k]?.getD 0) = cmpI (wval a) (wval b)) := by
  have da : a.drop k = a[k]?.getD 0 :: a.drop (k + 1) := by
    rw [List.getElem?_eq_getElem hk, Option.getD_some, ← List.drop_eq_getElem_cons hk]
  have db : b.drop k = b[k]?.getD 0 :: b.drop (k + 1) := by
    rw [List.getElem?_eq_getElem (by omega), Option.getD_some, ← List.drop_eq_getElem_cons (by omega)]
  constructor
  · intro e
    unfold Agree at *
    rw [da, db, e, h]
  · intro e
    have va : wval a = wval (a.take k ++ [a[k]?.getD 0]) + bpow (k + 1) * wval (a.drop (k + 1)) := by
      have : a = (a.take k ++ [a[k]?.getD 0]) ++ a.drop (k + 1) := by
        rw [List.append_assoc, List.singleton_append, ← da, List.take_append_drop]
      have hlen : (a.take k ++ [a[k]?.getD 0]).length = k + 1 := by simp; omega
      have e1 := wval_append (a.take k ++ [a[k]?.getD 0]) (a.drop (k + 1))
      rw [hlen, ← this] at e1
      exact e1
    have vb : wval b = wval (b.take k ++ [b[k]?.getD 0]) + bpow (k + 1) * wval (b.drop (k + 1)) := by
      have : b = (b.take k ++ [b[k]?.getD 0]) ++ b.drop (k + 1) := by
        rw [List.append_assoc, List.singleton_append, ← db, List.take_append_drop]
      have hlen : (b.take k ++ [b[k]?.getD 0]).length = k + 1 := by simp; omega
      have e1 := wval_append (b.take k ++ [b[k]?.getD 0]) (b.drop (k + 1))
      rw [hlen, ← this] at e1
      exact e1
    unfold Agree at h
    rw [h] at va
    unfold cmpI
    by_cases h1 : a[k]?.getD 0 < b[k]?.getD 0
    · have := wval_top (ha.take k) (hb.take k) (by simp; omega) h1
      rw [if_pos h1, if_pos (by omega)]
    · have h2 : b[k]?.getD 0 < a[k]?.getD 0 := by omega
      have := wval_top (hb.take k) (ha.take k) (by simp; omega) h2
      rw [if_neg h1, if_pos h2, if_neg (by omega), if_pos (by omega)]

theorem agree_all {a b : List Int} (h : Agree a b 0) : cmpI (wval a) (wval b) = 0 := by
  unfold Agree at h
  simp only [List.drop_zero] at h
  rw [h]
  unfold cmpI
  rw [if_neg (by omega), if_neg (by omega)]

set_option maxHeartbeats 1000000 in
theorem na_compare (va vb : Value) (a b : List Int) (w : World) (hA : Rd w va a) (hB : Rd w vb b) (ha : Can a) (hb : Can b) :
    Calls Tryz.prog 244 #[va, vb] w fun e w' => e = .returned (.int .i64 (cmpI (wval a) (wval b))) ∧ ∃ n, w' = w.drewN n := by
  obtain ⟨A, c, rfl, a1, a2, a3⟩ := hA
  obtain ⟨B, d, rfl, b1, b2, b3⟩ := hB
  unfold maxLen at a2 b2
  by_cases hl : a.length = b.length
  · have AC := Lib.hid (agree_cmp ha.1 hb.1 hl)
    have AA := Lib.hid (agree_all (a := a) (b := b))
    have GA := Lib.hid ha.1.getD
    have GB := Lib.hid hb.1.getD
    have HL := Lib.hid hl
    have RA := Lib.hid a3
    have RB := Lib.hid b3
    have AT : Hid (Agree a b a.length) := Lib.hid (by unfold Agree; rw [List.drop_length, hl, List.drop_length])
    have e0 : ((a.length : Int) != b.length) = false := by simp [hl]
    generalize cmpI (wval a) (wval b) = v at *
    have hle : a.length ≤ b.length := by omega
    clear hl a3 b3 ha hb
    go_enter Tryz.func244, Tryz.ntmps244
    go_wp2
    go_loopw [5] (fun i wr => ∃ k : Nat, k ≤ a.length ∧ i = .int .i64 ((k : Int) - 1) ∧ Hid (Agree a b k) ∧ ∃ n, wr = w.drewN n) (fun i _ => (intOf i + 1).toNat)
    case atStart => exact ⟨a.length, Nat.le_refl _, rfl, AT, 0, rfl⟩
    case round =>
      obtain ⟨k, hk, rfl, HK, n, rfl⟩ := hrel
      by_cases h0 : 0 < k
      · obtain ⟨j, rfl⟩ : ∃ j, k = j + 1 := ⟨k - 1, by omega⟩
        obtain ⟨x, rfl, hx⟩ := RA.out.at_ (by omega)
        obtain ⟨y, rfl, hy⟩ := RB.out.at_ (by omega)
        have cx := hx j (by omega)
        have cy := hy j (by omega)
        have gx := GA.out j
        have gy := GB.out j
        rw [List.getD_eq_getElem?_getD] at gx gy
        have gx1 := gx.1; have gx2 := gx.2; have gy1 := gy.1; have gy2 := gy.2
        have HC := Lib.hid (AC.out j (by omega) HK.out)
        clear hx hy gx gy
        generalize a[j]?.getD 0 = xa at *
        generalize b[j]?.getD 0 = xb at *
        by_cases he : xa = xb
        · have HE := Lib.hid (HC.out.1 he)
          subst he
          have e1 : (xa != xa) = false := by simp
          go_wp2
          go_quiet (fail)
          go_wp2
          exact ⟨⟨j, by omega, by simp, HE, _, rfl⟩, by simp [intOf]⟩
        · have HE := Lib.hid (HC.out.2 he)
          have e1 : (xa != xb) = true := by rw [bne_iff_ne]; exact he
          clear he
          go_wp2
          go_quiet (fail)
          go_wp2
          go_quiet ((go_at_call 264; refine (cmp_u32 _ _ _ (by omega) (by omega) (by omega) (by omega)).mono ?_; rintro e w' ⟨rfl, rfl⟩; exact ⟨rfl, _, rfl⟩))
          go_wp2
          go_ret
          exact ⟨ret_int HE.out, _, by rw [World.drewN_drewN, World.drewN_drewN]⟩
      · obtain rfl : k = 0 := by omega
        go_wp2
        go_ret
        exact ⟨ret_int (AA.out HK.out).symm, _, rfl⟩
  · have HC := Lib.hid (cmpI_len ha hb hl)
    have e0 : ((a.length : Int) != b.length) = true := by rw [bne_iff_ne]; omega
    clear hl ha hb a3 b3
    go_enter Tryz.func244, Tryz.ntmps244
    go_wp2_with (go_at_call 263; refine (cmp_int _ _ _ (by omega) (by omega) (by omega) (by omega)).mono ?_; rintro e w' ⟨rfl, rfl⟩)
    go_ret
    exact ⟨ret_int HC.out, 0, rfl⟩
end Go.Proofs.YthkkdepppjiaeaaGreatDoor

/- Walks of the program's package natural: by (the division by one word). -/
namespace Go.Proofs.YthkkdepppjiaeaaGreatDoor
open Go.RowKit

theorem inf32 : (Tryz.prog.info? 101).map (fun i => (i.zero, i.size, i.bytes)) = some (some (.int .u32 0), 1, 4) := by kernel_rfl

/-- A slice of the call's own at a known place. -/
def OwnG (w : World) (base g n c : Nat) (o : List Int) : Prop :=
  o.length = n ∧ w.ownsRow base 101 1 (.slice (some ⟨g, 0, none⟩) n c) n (o.map (Value.int .u32))

theorem OwnG.own {w : World} {base g n c : Nat} {o : List Int} (h : OwnG w base g n c o) : Own w base (.slice (some ⟨g, 0, none⟩) o.length c) o := by
  obtain ⟨rfl, h⟩ := h; exact h
theorem OwnG.cell {w : World} {base g n c : Nat} {o : List Int} (h : OwnG w base g n c o) (j : Nat) (hj : j < n) : w.cell? ⟨g, j, none⟩ = some (.int .u32 (o[j]?.getD 0)) := by
  have := h.2.cellAt j (by simpa using hj)
  rw [this, List.getElem?_map, List.getElem?_eq_getElem (by rw [h.1]; exact hj)]
  rfl
theorem OwnG.free {w : World} {base g n c : Nat} {o : List Int} (h : OwnG w base g n c o) (j : Nat) : w.frozen? ⟨g, j, none⟩ = false := h.2.frozenAt j
theorem OwnG.store {w : World} {base g n c : Nat} {o : List Int} (h : OwnG w base g n c o) (j : Nat) (x : Int) : OwnG (w.setCell ⟨g, j, none⟩ (.int .u32 x)) base g n c (o.set j x) := by
  refine ⟨by rw [List.length_set]; exact h.1, ?_⟩
  have := (h.2.stored j (.int .u32 x)).1
  rwa [← List.map_set] at this
theorem OwnG.below {w w' : World} {base g n c : Nat} {o : List Int} (h : OwnG w base g n c o) (hb : Below w.heap.size w w') : OwnG w' base g n c o := by
  obtain ⟨rfl, h2⟩ := h
  exact ⟨rfl, Own.below (l := o) h2 hb⟩
theorem OwnG.drewN {w : World} {base g n c : Nat} {o : List Int} (h : OwnG w base g n c o) (m : Nat) : OwnG (w.drewN m) base g n c o := h
theorem OwnG.lt {w : World} {base g n c : Nat} {o : List Int} (h : OwnG w base g n c o) : base ≤ g ∧ g < w.heap.size := h.2.lt g rfl
theorem OwnG.made {w : World} {base g n : Nat} (h : w.ownsRow base 101 1 (.slice (some ⟨g, 0, none⟩) n n) n (madeCells (Value.int .u32 0).cells (n * 1)).toList) : OwnG w base g n n (List.replicate n 0) := by
  refine ⟨by simp, ?_⟩
  have e : (madeCells (Value.int .u32 0).cells (n * 1)).toList = (List.replicate n (0 : Int)).map (Value.int .u32) := by
    unfold madeCells
    simp [Value.cells]
    apply List.ext_getElem
    · simp
    · intro i h1 h2
      simp [Nat.mod_one]
  rwa [e] at h

/-- The division by one word, from the last word on. -/
structure ByInv (l o : List Int) (d r : Int) (k : Nat) : Prop where
  ok : WOk o
  r0 : 0 ≤ r
  r1 : r < d
  eq : wval (l.drop k) = wval (o.drop k) * d + r
  low : ∀ j, j < k → o[j]?.getD 0 = 0

theorem ByInv.step {l o : List Int} {d r : Int} {k : Nat} (h : ByInv l o d r (k + 1)) (hk : k < l.length) (hl : o.length = l.length) (hok : WOk l) :
    ByInv l (o.set k ((r * 1000000000 + l[k]?.getD 0) / d)) d ((r * 1000000000 + l[k]?.getD 0) % d) k := by
  have hx := hok.getD k
  rw [List.getD_eq_getElem?_getD] at hx
  have hd0 : 0 < d := by have := h.r0; have := h.r1; omega
  have hr := h.r1
  have hr0 := h.r0
  generalize hX : l[k]?.getD 0 = x at *
  have q0 : 0 ≤ (r * 1000000000 + x) / d := Int.ediv_nonneg (by omega) (by omega)
  have q1 : (r * 1000000000 + x) / d < 1000000000 := by
    apply Int.ediv_lt_of_lt_mul hd0
    have := Int.mul_le_mul_of_nonneg_left (show r + 1 ≤ d by omega) (show (0 : Int) ≤ 1000000000 by omega)
    omega
  have em := Int.ediv_mul_add_emod (r * 1000000000 + x) d
  refine ⟨h.ok.set _ ⟨q0, q1⟩, Int.emod_nonneg _ (by omega), Int.emod_lt_of_pos _ hd0, ?_, fun j hj => ?_⟩
  · have dl : l.drop k = x :: l.drop (k + 1) := by
      rw [← hX, List.getElem?_eq_getElem hk, Option.getD_some, ← List.drop_eq_getElem_cons hk]
    have dq : (o.set k ((r * 1000000000 + x) / d)).drop k = ((r * 1000000000 + x) / d) :: o.drop (k + 1) := by
      rw [List.drop_eq_getElem_cons (by simp; omega), List.getElem_set_self, List.drop_set_of_lt (by omega)]
    rw [dl, dq]
    simp only [wval]
    rw [h.eq]
    grind
  · rw [List.getElem?_set_ne (by omega)]
    exact h.low j (by omega)

theorem byq_lt {r d x : Int} (h0 : 0 ≤ r) (h1 : r < d) (hx0 : 0 ≤ x) (hx1 : x < 1000000000) :
    0 ≤ (r * 1000000000 + x) / d ∧ (r * 1000000000 + x) / d < 1000000000 := by
  refine ⟨Int.ediv_nonneg (by omega) (by omega), ?_⟩
  apply Int.ediv_lt_of_lt_mul (by omega)
  have := Int.mul_le_mul_of_nonneg_left (show r + 1 ≤ d by omega) (show (0 : Int) ≤ 1000000000 by omega)
  omega

theorem ByInv.start (l : List Int) (d : Int) (hd : 0 < d) : ByInv l (List.replicate l.length 0) d 0 l.length :=
  ⟨WOk.replicate _, Int.le_refl _, hd, by simp [wval], fun j hj => by simp [hj]⟩

theorem ByInv.done {n d : Nat} {o : List Int} {r : Int} (h : ByInv (ws n) o d r 0) : trimL o = ws (n / d) ∧ r = (n % d : Nat) ∧ 0 ≤ r := by
  have e := h.eq
  simp only [List.drop_zero, ws_val] at e
  have hr := h.r1
  have hr0 := h.r0
  have hd : (0 : Int) < d := by omega
  have e1 : wval o = ((n / d : Nat) : Int) := by
    rw [Int.natCast_ediv, e]
    rw [Int.add_comm, Int.add_mul_ediv_right _ _ (by omega), Int.ediv_eq_zero_of_lt hr0 hr]; omega
  refine ⟨ws_trim h.ok e1, ?_, hr0⟩
  rw [Int.natCast_emod, e, Int.add_comm, Int.add_mul_emod_self_right, Int.emod_eq_of_lt hr0 hr]

set_option maxHeartbeats 1000000 in
theorem na_by (v : Value) (n d : Nat) (w : World) (hv : Rd w v (ws n)) (hs : (ws n).length ≤ 1000000000) (hd0 : 0 < d) (hd : d ≤ 1000000000) :
    Calls Tryz.prog 265 #[v, .int .u64 d] w fun e w' =>
      ∃ q r, e = .returned (.tuple #[q, r]) ∧ Own w' w.heap.size q (ws (n / d)) ∧ Own w' w.heap.size r (ws (n % d)) ∧ Below w.heap.size w w' := by
  obtain ⟨A, c, rfl, a1, a2, a3⟩ := hv
  unfold maxLen at a2
  have OK := Lib.hid (ws_can n).1
  have HR := Lib.hid a3
  have HS := Lib.hid (ByInv.start (ws n) d (by omega))
  have HD : Hid (∀ (o : List Int) (r : Int), ByInv (ws n) o d r 0 → trimL o = ws (n / d) ∧ r = (n % d : Nat) ∧ 0 ≤ r) := Lib.hid (fun o r h => h.done)
  have hN : ((d : Int) != 0) = true := by rw [bne_iff_ne]; omega
  obtain ⟨i0, hi, hz0, hz1, hz2⟩ := info_parts inf32
  generalize hws : ws n = l at *
  clear hws a3
  go_enter Tryz.func265, Tryz.ntmps265
  go_wp2_with (at_make; refine wpList_make_full _ rfl _ _ 274 rfl w.heap.size 101 i0 (.int .u32 0) 1 Tryz.underlying274 hi hz0 hz1 _ _ _ _ l.length rfl rfl rfl rfl (by rw [hz2]; omega) (by unfold maxLen; omega) (Nat.le_refl _) ?_; intro w1 hown hgrow)
  have hB : Below w.heap.size w w1 := (Below.refl _ _).grown hgrow (Nat.le_refl _) (fun k hk => by cases hk)
  have HO : Hid (OwnG w1 w.heap.size w.heap.size l.length l.length (List.replicate l.length 0)) := Lib.hid (OwnG.made hown)
  clear hown hgrow hi hz0 hz1 hz2
  go_wp2
  go_loopw [7, 8] (fun r i wr => ∃ (k : Nat) (o : List Int) (x : Int), k ≤ l.length ∧ i = .int .i64 ((k : Int) - 1) ∧ r = .int .u64 x ∧ Hid (ByInv l o d x k) ∧ Hid (OwnG wr w.heap.size w.heap.size l.length l.length o) ∧ Below w.heap.size w wr) (fun _ i _ => (intOf i + 1).toNat)
  case atStart => exact ⟨l.length, _, 0, Nat.le_refl _, rfl, rfl, HS, HO, hB⟩
  case round =>
    obtain ⟨k, o, x, hk, rfl, rfl, HI, HW, hBr⟩ := hrel
    have hx0 := HI.out.r0
    have hx1 := HI.out.r1
    have hsz := hBr.size
    by_cases h0 : 0 < k
    · obtain ⟨j, rfl⟩ : ∃ j, k = j + 1 := ⟨k - 1, by omega⟩
      obtain ⟨b, rfl, hc⟩ := (HR.out.below hBr).at_ (by omega)
      have cx := hc j (by omega)
      have gx := OK.out.getD j
      rw [List.getD_eq_getElem?_getD] at gx
      have gx0 := gx.1
      have gx1 := gx.2
      have co := HW.out.cell j (by omega)
      have cf := HW.out.free j
      have HN := Lib.hid (HI.out.step (by omega) HW.out.1 OK.out)
      clear hc gx
      generalize l[j]?.getD 0 = y at *
      generalize o[j]?.getD 0 = z at *
      have HQ := Lib.hid (byq_lt hx0 hx1 gx0 gx1)
      go_wp2
      refine ⟨⟨j, o.set j ((x * 1000000000 + y) / d), _, by omega, by simp, rfl, HN, Lib.hid ?_, hBr.setCell (Nat.le_refl _) _⟩, by simp [intOf]⟩
      rw [Int.emod_eq_of_lt HQ.out.1 (by have := HQ.out.2; omega)]
      exact HW.out.store j _
    · obtain rfl : k = 0 := by omega
      have hdone := HD.out o x HI.out
      have HE := Lib.hid hdone
      have ht := na_trim (some ⟨w.heap.size, 0, none⟩) l.length o wr (by rw [HW.out.1]; exact Nat.le_refl _) (by unfold maxLen; omega) (by
        obtain ⟨A', c', e1, e2, e3, e4⟩ := HW.out.own.rd
        simp only [Value.slice.injEq] at e1
        obtain ⟨rfl, _, rfl⟩ := e1
        exact e4)
      rw [HW.out.1] at ht
      have hq := HW.out.own.trim
      rw [hdone.1] at ht hq
      have HQ := Lib.hid hq
      have HX := Lib.hid hdone.2.1
      clear hdone hq
      go_wp2_with fail
      refine ht.mono ?_
      rintro e w' ⟨rfl, rfl⟩
      clear ht
      go_wp2_with fail
      refine (na_of x _ (by omega) (by omega)).mono ?_
      rintro e w' ⟨r, rfl, hr, hb⟩
      have HR' := Lib.hid hr
      clear hr
      go_wp2
      go_ret2
      exact ⟨_, _, rfl, HQ.out.below hb, by have := HR'.out; rw [HX.out, Int.toNat_natCast] at this; exact this.mono hsz, hBr.trans (hb.mono hsz)⟩
end Go.Proofs.YthkkdepppjiaeaaGreatDoor

/- Walks of the program's package natural: times. -/
namespace Go.Proofs.YthkkdepppjiaeaaGreatDoor
open Go.RowKit

theorem wval_set (o : List Int) (j : Nat) (v : Int) (hj : j < o.length) : wval (o.set j v) = wval o + bpow j * (v - o[j]?.getD 0) := by
  induction o generalizing j with
  | nil => simp at hj
  | cons x r ih =>
    cases j with
    | zero => simp [wval, bpow_zero]; omega
    | succ j =>
      simp only [List.set_cons_succ, wval, List.getElem?_cons_succ, bpow_succ]
      rw [ih j (by simpa using hj)]
      grind
theorem wval_take_succ (a : List Int) (i : Nat) (hi : i < a.length) : wval (a.take (i + 1)) = wval (a.take i) + bpow i * a[i]?.getD 0 := by
  rw [List.take_succ_eq_append_getElem hi, wval_snoc, List.getElem?_eq_getElem hi]
  simp [Nat.min_eq_left (Nat.le_of_lt hi)]

structure MulO (a b o : List Int) (i : Nat) : Prop where
  ok : WOk o
  eq : wval o = wval (a.take i) * wval b
  high : ∀ j, i + b.length ≤ j → o[j]?.getD 0 = 0
structure MulI (a b o : List Int) (i k : Nat) (c : Int) : Prop where
  ok : WOk o
  c0 : 0 ≤ c
  c1 : c < 1000000000
  eq : wval o + c * bpow (i + k) = wval (a.take i) * wval b + bpow i * (a[i]?.getD 0 * wval (b.take k))
  high : ∀ j, i + b.length ≤ j → o[j]?.getD 0 = 0

theorem MulO.start (a b : List Int) : MulO a b (List.replicate (a.length + b.length) 0) 0 :=
  ⟨WOk.replicate _, by rw [wval_replicate]; simp [wval], fun j _ => by
    rw [List.getElem?_replicate]; split <;> rfl⟩
theorem MulO.enter {a b o : List Int} {i : Nat} (h : MulO a b o i) : MulI a b o i 0 0 :=
  ⟨h.ok, Int.le_refl _, by decide, by rw [h.eq]; simp [wval], h.high⟩
theorem mul_lt {x y : Int} (hx0 : 0 ≤ x) (hx1 : x < 1000000000) (hy0 : 0 ≤ y) (hy1 : y < 1000000000) : 0 ≤ x * y ∧ x * y ≤ 999999998000000001 := by
  have h1 := Int.mul_nonneg hx0 hy0
  have h2 := Int.mul_le_mul (show x ≤ 999999999 by omega) (show y ≤ 999999999 by omega) hy0 (by omega)
  omega
theorem MulI.step {a b o : List Int} {i k : Nat} {c : Int} (h : MulI a b o i k c) (ha : WOk a) (hb : WOk b) (hi : i < a.length) (hk : k < b.length) (hl : o.length = a.length + b.length) :
    MulI a b (o.set (i + k) ((c + (a[i]?.getD 0 * b[k]?.getD 0 + o[i + k]?.getD 0)) % 1000000000)) i (k + 1) ((c + (a[i]?.getD 0 * b[k]?.getD 0 + o[i + k]?.getD 0)) / 1000000000) := by
  have hx := ha.getD i
  have hy := hb.getD k
  have hz := h.ok.getD (i + k)
  rw [List.getD_eq_getElem?_getD] at hx hy hz
  have hxy := mul_lt hx.1 hx.2 hy.1 hy.2
  have hc0 := h.c0
  have hc1 := h.c1
  have he := h.eq
  have ht := wval_take_succ b k hk
  generalize hxx : a[i]?.getD 0 = x at *
  generalize hyy : b[k]?.getD 0 = y at *
  generalize hzz : o[i + k]?.getD 0 = z at *
  generalize hpp : x * y = p at *
  refine ⟨h.ok.set _ ⟨by omega, by omega⟩, by omega, by omega, ?_, fun j hj => ?_⟩
  · rw [wval_set _ _ _ (by omega), hzz, show i + (k + 1) = (i + k) + 1 by omega, bpow_succ, ht, hxx]
    have hb := bpow_add i k
    have em := Int.ediv_mul_add_emod (c + (p + z)) 1000000000
    generalize (c + (p + z)) / 1000000000 = q at *
    generalize (c + (p + z)) % 1000000000 = r at *
    have e1 : r - z + q * 1000000000 = c + p := by omega
    have e2 : bpow (i + k) * (r - z) + q * (1000000000 * bpow (i + k)) = bpow (i + k) * (c + p) := by rw [← e1]; grind
    have e3 : bpow i * (x * (wval (b.take k) + bpow k * y)) = bpow i * (x * wval (b.take k)) + bpow (i + k) * p := by rw [hb, ← hpp]; grind
    rw [e3]
    generalize bpow i * (x * wval (b.take k)) = s at *
    generalize bpow (i + k) = t at *
    grind
  · rw [List.getElem?_set_ne (by omega)]
    exact h.high j hj
theorem MulI.leave {a b o : List Int} {i : Nat} {c : Int} (h : MulI a b o i b.length c) (hi : i < a.length) (hl : o.length = a.length + b.length) : MulO a b (o.set (i + b.length) c) (i + 1) := by
  have he := h.eq
  have hz := h.high (i + b.length) (Nat.le_refl _)
  refine ⟨h.ok.set _ ⟨h.c0, h.c1⟩, ?_, fun j hj => ?_⟩
  · rw [wval_set _ _ _ (by omega), hz, wval_take_succ a i hi]
    rw [List.take_length] at he
    generalize bpow (i + b.length) = t at *
    grind
  · rw [List.getElem?_set_ne (by omega)]
    exact h.high j (by omega)
theorem MulO.done {m n : Nat} {o : List Int} (h : MulO (ws m) (ws n) o (ws m).length) : trimL o = ws (m * n) := by
  have he := h.eq
  rw [List.take_length, ws_val, ws_val] at he
  exact ws_trim h.ok (by rw [he]; simp)
theorem mul_fit {x y z c : Int} (hx0 : 0 ≤ x) (hx1 : x < 1000000000) (hy0 : 0 ≤ y) (hy1 : y < 1000000000) (hz0 : 0 ≤ z) (hz1 : z < 1000000000) (hc0 : 0 ≤ c) (hc1 : c < 1000000000) :
    0 ≤ c + (x * y + z) ∧ c + (x * y + z) ≤ 1000000000000000000 ∧ 0 ≤ x * y + z ∧ x * y + z ≤ 1000000000000000000 ∧ 0 ≤ x * y ∧ x * y ≤ 1000000000000000000 := by
  have := mul_lt hx0 hx1 hy0 hy1
  generalize x * y = p at *
  omega

set_option maxHeartbeats 2000000 in
theorem na_times (va vb : Value) (m n : Nat) (w : World) (hA : Rd w va (ws m)) (hB : Rd w vb (ws n)) (hm : (ws m).length ≤ 400000000) (hn : (ws n).length ≤ 400000000) :
    Calls Tryz.prog 225 #[va, vb] w fun e w' =>
      ∃ q, e = .returned q ∧ Own w' w.heap.size q (ws (m * n)) ∧ Below w.heap.size w w' := by
  obtain ⟨A, c, rfl, a1, a2, a3⟩ := hA
  obtain ⟨B, d, rfl, b1, b2, b3⟩ := hB
  unfold maxLen at a2 b2
  have OA := Lib.hid (ws_can m).1
  have OB := Lib.hid (ws_can n).1
  have RA := Lib.hid a3
  have RB := Lib.hid b3
  have HS := Lib.hid (MulO.start (ws m) (ws n))
  have HD : Hid (∀ o, MulO (ws m) (ws n) o (ws m).length → trimL o = ws (m * n)) := Lib.hid (fun o h => h.done)
  obtain ⟨i0, hi, hz0, hz1, hz2⟩ := info_parts inf32
  generalize ws m = a at *
  generalize ws n = b at *
  clear a3 b3
  go_enter Tryz.func225, Tryz.ntmps225
  go_wp2_with (at_make; refine wpList_make_full _ rfl _ _ 274 rfl w.heap.size 101 i0 (.int .u32 0) 1 Tryz.underlying274 hi hz0 hz1 _ _ _ _ (a.length + b.length) rfl rfl (by simp) (by simp) (by rw [hz2]; omega) (by unfold maxLen; omega) (Nat.le_refl _) ?_; intro w1 hown hgrow)
  have hBl : Below w.heap.size w w1 := (Below.refl _ _).grown hgrow (Nat.le_refl _) (fun k hk => by cases hk)
  have HO : Hid (OwnG w1 w.heap.size w.heap.size (a.length + b.length) (a.length + b.length) (List.replicate (a.length + b.length) 0)) := Lib.hid (OwnG.made hown)
  clear hown hgrow hi hz0 hz1 hz2
  go_wp2
  go_loopw [19] (fun ix wr => ∃ (i : Nat) (o : List Int), i ≤ a.length ∧ ix = .int .i64 i ∧ Hid (MulO a b o i) ∧ Hid (OwnG wr w.heap.size w.heap.size (a.length + b.length) (a.length + b.length) o) ∧ Below w.heap.size w wr) (fun ix _ => a.length - (intOf ix).toNat)
  case atStart => exact ⟨0, _, Nat.zero_le _, rfl, HS, HO, hBl⟩
  case round =>
    obtain ⟨i, o, hi, rfl, HI, HW, hBr⟩ := hrel
    have hsz := hBr.size
    by_cases h0 : i < a.length
    · obtain ⟨ba, rfl, hc⟩ := (RA.out.below hBr).at_ (by omega)
      have cx := hc i h0
      have gx := OA.out.getD i
      rw [List.getD_eq_getElem?_getD] at gx
      have gx0 := gx.1
      have gx1 := gx.2
      have HE := Lib.hid HI.out.enter
      clear hc gx
      generalize hx : a[i]?.getD 0 = x at *
      have HX := Lib.hid hx
      clear hx
      go_wp2
      obtain ⟨wo, rfl⟩ : ∃ wo : World, wo = wr := ⟨_, rfl⟩
      go_loopw [26, 8] (fun kx cx wr => ∃ (k : Nat) (o : List Int) (c : Int), k ≤ b.length ∧ kx = .int .i64 k ∧ cx = .int .u64 c ∧ Hid (MulI a b o i k c) ∧ Hid (OwnG wr w.heap.size w.heap.size (a.length + b.length) (a.length + b.length) o) ∧ Below w.heap.size w wr) (fun kx _ _ => b.length - (intOf kx).toNat)
      case atStart => exact ⟨0, _, 0, Nat.zero_le _, rfl, rfl, HE, HW, hBr⟩
      case round =>
        obtain ⟨k, o, c', hk, rfl, rfl, HI2, HW2, hBr2⟩ := hrel
        have hsz2 := hBr2.size
        have hc0 := HI2.out.c0
        have hc1 := HI2.out.c1
        by_cases h2 : k < b.length
        · obtain ⟨bb, rfl, hc⟩ := (RB.out.below hBr2).at_ (by omega)
          have cy := hc k h2
          have gy := OB.out.getD k
          have gz := HI2.out.ok.getD (i + k)
          rw [List.getD_eq_getElem?_getD] at gy gz
          have gy0 := gy.1
          have gy1 := gy.2
          have gz0 := gz.1
          have gz1 := gz.2
          have co := HW2.out.cell (i + k) (by omega)
          have cf := HW2.out.free (i + k)
          have HN := HI2.out.step OA.out OB.out h0 h2 HW2.out.1
          rw [HX.out] at HN
          have HN := Lib.hid HN
          clear hc gy gz
          generalize b[k]?.getD 0 = y at *
          generalize o[i + k]?.getD 0 = z at *
          have hf := mul_fit gx0 gx1 gy0 gy1 gz0 gz1 hc0 hc1
          have f1 := hf.1; have f2 := hf.2.1; have f3 := hf.2.2.1; have f4 := hf.2.2.2.1; have f5 := hf.2.2.2.2.1; have f6 := hf.2.2.2.2.2
          clear hf
          go_wp2
          exact ⟨⟨k + 1, _, _, by omega, by simp, rfl, HN, Lib.hid (HW2.out.store (i + k) _), hBr2.setCell (Nat.le_refl _) _⟩, by simp [intOf]; omega⟩
        · obtain rfl : k = b.length := by omega
          have co := HW2.out.cell (i + b.length) (by omega)
          have cf := HW2.out.free (i + b.length)
          have HN := Lib.hid (HI2.out.leave h0 HW2.out.1)
          generalize o[i + b.length]?.getD 0 = z at *
          go_wp2
          exact ⟨⟨i + 1, _, by omega, by simp, HN, Lib.hid (HW2.out.store (i + b.length) _), hBr2.setCell (Nat.le_refl _) _⟩, by simp [intOf]; omega⟩
    · obtain rfl : i = a.length := by omega
      have hdone := HD.out o HI.out
      have ht := na_trim (some ⟨w.heap.size, 0, none⟩) (a.length + b.length) o wr (by rw [HW.out.1]; exact Nat.le_refl _) (by unfold maxLen; omega) (by
        obtain ⟨A', c', e1, e2, e3, e4⟩ := HW.out.own.rd
        simp only [Value.slice.injEq] at e1
        obtain ⟨rfl, _, rfl⟩ := e1
        exact e4)
      rw [HW.out.1] at ht
      have hq := HW.out.own.trim
      rw [hdone] at ht hq
      have HQ := Lib.hid hq
      clear hdone hq
      go_wp2_with fail
      refine ht.mono ?_
      rintro e w' ⟨rfl, rfl⟩
      clear ht
      go_wp2
      go_ret
      exact ⟨_, rfl, HQ.out, hBr⟩
end Go.Proofs.YthkkdepppjiaeaaGreatDoor
