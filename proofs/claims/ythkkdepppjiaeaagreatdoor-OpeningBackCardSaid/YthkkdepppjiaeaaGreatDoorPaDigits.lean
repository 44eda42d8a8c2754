/- A PART OF THE PROOF, JOINED OUT OF 4 TEXTS. -/
import Derived.Lib.ItoaNum
import Derived.Lib.ParseIntB
import Derived.Test.YthkkdepppjiaeaaGreatDoorProg
import Derived.WalkKit
import Derived.WalkSpells
import Derived.WalkLawsBesides
import Derived.Lib.Hide
import Derived.BigQuiet
import Derived.Deep.QuietTactic
/- Decimal digits: the value of a row of digits, and that the canonical numerals are just those of the numbers. -/
namespace Go.Proofs.YthkkdepppjiaeaaGreatDoor
open Go.Lib

def isDig (c : UInt8) : Prop := 48 ≤ c.toNat ∧ c.toNat ≤ 57

/-- The value of a digit. (Kept closed: the difference of naturals is a trap for defeq checks.) -/
@[irreducible] def dgv (c : UInt8) : Nat := c.toNat - 48
theorem dgv_eq (c : UInt8) : dgv c = c.toNat - 48 := by unfold dgv; rfl

def dvalA (acc : Nat) : List UInt8 → Nat
  | [] => acc
  | c :: r => dvalA (acc * 10 + dgv c) r

/-- The number that digits spell. -/
def dval (l : List UInt8) : Nat := dvalA 0 l

theorem dvalA_eq (l : List UInt8) : ∀ acc, dvalA acc l = acc * 10 ^ l.length + dval l := by
  induction l with
  | nil => intro acc; simp [dvalA, dval]
  | cons c r ih =>
    intro acc
    have h1 := ih (acc * 10 + dgv c)
    have h2 := ih (0 * 10 + dgv c)
    simp only [dvalA, dval, List.length_cons] at *
    rw [h1, h2, Nat.pow_succ]
    grind

theorem dval_append (a b : List UInt8) : dval (a ++ b) = dval a * 10 ^ b.length + dval b := by
  have : ∀ acc, dvalA acc (a ++ b) = dvalA (dvalA acc a) b := by
    induction a with
    | nil => intro acc; rfl
    | cons c r ih => intro acc; simp only [List.cons_append, dvalA, ih]
  unfold dval
  rw [this, dvalA_eq]
  rfl

theorem dval_nil : dval [] = 0 := rfl
theorem dval_single (c : UInt8) : dval [c] = dgv c := by simp [dval, dvalA]

theorem dval_lt (l : List UInt8) (h : ∀ c ∈ l, isDig c) : dval l < 10 ^ l.length := by
  induction l with
  | nil => simp [dval, dvalA]
  | cons c r ih =>
    have h1 := dval_append [c] r
    rw [dval_single] at h1
    have h2 := ih (fun x hx => h x (List.mem_cons_of_mem _ hx))
    have h3 := h c List.mem_cons_self
    unfold isDig at h3
    simp only [List.singleton_append] at h1
    rw [h1, List.length_cons, Nat.pow_succ]
    have : dgv c * 10 ^ r.length ≤ 9 * 10 ^ r.length := Nat.mul_le_mul_right _ (by rw [dgv_eq]; omega)
    omega

/-- A canonical numeral: digits, at least one, and no zero ahead of others. -/
def ValidN (l : List UInt8) : Prop := l ≠ [] ∧ (∀ c ∈ l, isDig c) ∧ (1 < l.length → l.head? ≠ some 48)

theorem head_app {α : Type} (a b : List α) (h : a ≠ []) : (a ++ b).head? = a.head? := by
  cases a with
  | nil => exact absurd rfl h
  | cons x r => rfl

theorem ofNat_dig (k : Nat) (h : k < 10) : (UInt8.ofNat (48 + k)).toNat = 48 + k := by
  rw [UInt8.toNat_ofNat']
  omega

theorem decDigits_dig (n : Nat) : ∀ c ∈ decDigits n, isDig c := by
  induction n using Nat.strongRecOn with
  | _ n ih =>
    intro c hc
    rw [decDigits] at hc
    split at hc
    · simp only [List.mem_singleton] at hc
      subst hc
      unfold isDig
      rw [ofNat_dig _ (by omega)]
      omega
    · simp only [List.mem_append, List.mem_singleton] at hc
      rcases hc with hc | hc
      · exact ih _ (by omega) c hc
      · subst hc
        unfold isDig
        rw [ofNat_dig _ (by omega)]
        omega

theorem decDigits_ne (n : Nat) : decDigits n ≠ [] := by
  rw [decDigits]
  split <;> simp

theorem decDigits_dval (n : Nat) : dval (decDigits n) = n := by
  induction n using Nat.strongRecOn with
  | _ n ih =>
    rw [decDigits]
    split
    · rw [dval_single, dgv_eq, ofNat_dig _ (by omega)]; omega
    · rw [dval_append, ih _ (by omega), dval_single, dgv_eq, ofNat_dig _ (by omega)]
      simp only [List.length_singleton, Nat.pow_one]
      omega

theorem decDigits_head (n : Nat) (h : 0 < n) : (decDigits n).head? ≠ some 48 := by
  induction n using Nat.strongRecOn with
  | _ n ih =>
    rw [decDigits]
    split
    · rename_i h10
      simp only [List.head?_cons, Option.some.injEq, ne_eq]
      intro e
      have := congrArg UInt8.toNat e
      rw [ofNat_dig _ (by omega)] at this
      simp at this
      omega
    · rename_i h10
      rw [head_app _ _ (decDigits_ne _)]
      exact ih _ (by omega) (by omega)

theorem decDigits_valid (n : Nat) : ValidN (decDigits n) := by
  refine ⟨decDigits_ne n, decDigits_dig n, fun h => ?_⟩
  rcases Nat.eq_zero_or_pos n with rfl | hn
  · rw [decDigits] at h; simp at h
  · exact decDigits_head n hn

theorem dval_pos (c : UInt8) (r : List UInt8) (h : isDig c) (h0 : c ≠ 48) : 10 ^ r.length ≤ dval (c :: r) := by
  have h1 := dval_append [c] r
  rw [dval_single] at h1
  simp only [List.singleton_append] at h1
  rw [h1]
  have : 1 ≤ dgv c := by
    rw [dgv_eq]
    unfold isDig at h
    have : c.toNat ≠ 48 := fun e => h0 (by apply UInt8.toNat.inj; simpa using e)
    omega
  have := Nat.mul_le_mul_right (10 ^ r.length) this
  omega

/-- Every canonical numeral is the numeral of its value. -/
theorem decDigits_of_valid (l : List UInt8) (h : ValidN l) : decDigits (dval l) = l := by
  suffices H : ∀ (k : Nat) (l : List UInt8), l.length = k → ValidN l → decDigits (dval l) = l from H _ l rfl h
  intro k
  induction k with
  | zero => intro l hl hv; exact absurd (List.eq_nil_of_length_eq_zero hl) hv.1
  | succ k ih =>
    intro l hl hv
    rcases List.eq_nil_or_concat l with rfl | ⟨m, c, rfl⟩
    · simp at hl
    · rw [List.concat_eq_append] at *
      have hc : isDig c := hv.2.1 c (by simp)
      have hc' := hc
      unfold isDig at hc'
      have hd10 : dgv c < 10 := by rw [dgv_eq]; omega
      have e48 : UInt8.ofNat (48 + dgv c) = c := by
        rw [dgv_eq]
        apply UInt8.toNat.inj
        rw [ofNat_dig _ (by omega)]
        omega
      by_cases hm : m = []
      · subst hm
        simp only [List.nil_append, dval_single]
        rw [decDigits, dif_pos (by omega), e48]
      · have hvm : ValidN m := by
          refine ⟨hm, fun x hx => hv.2.1 x (by simp [hx]), fun h1 => ?_⟩
          have := hv.2.2 (by simp; omega)
          rwa [head_app _ _ hm] at this
        have e1 : dval (m ++ [c]) = dval m * 10 + dgv c := by
          rw [dval_append, dval_single]; simp
        have hpos : 1 ≤ dval m := by
          obtain ⟨d, r, rfl⟩ := List.exists_cons_of_ne_nil hm
          have hd : isDig d := hv.2.1 d (by simp)
          have hd0 : d ≠ 48 := by
            have := hv.2.2 (by simp)
            simpa using this
          have := dval_pos d r hd hd0
          have := Nat.one_le_pow r.length 10 (by decide)
          omega
        rw [e1, decDigits, dif_neg (by omega)]
        rw [show (dval m * 10 + dgv c) / 10 = dval m by omega, show (dval m * 10 + dgv c) % 10 = dgv c by omega, e48]
        rw [ih m (by simpa using hl) hvm]

theorem decDigits_inj {a b : Nat} (h : decDigits a = decDigits b) : a = b := by
  rw [← decDigits_dval a, h, decDigits_dval]

theorem nDigits_le {u k : Nat} (hk : 1 ≤ k) (h : u < 10 ^ k) : nDigits u ≤ k := by
  induction u using Nat.strongRecOn generalizing k with
  | _ u ih =>
    by_cases h10 : u < 10
    · rw [nDigits_small h10]; exact hk
    · rw [nDigits_big h10]
      obtain ⟨j, rfl⟩ : ∃ j, k = j + 1 := ⟨k - 1, by omega⟩
      rw [Nat.pow_succ] at h
      have : 1 ≤ j := by
        rcases Nat.eq_zero_or_pos j with rfl | h
        · simp at h; omega
        · exact h
      have := ih (u / 10) (by omega) this (by omega)
      omega

theorem decDigits_len {u k : Nat} (hk : 1 ≤ k) : (decDigits u).length ≤ k ↔ u < 10 ^ k := by
  rw [decDigits_length]
  constructor
  · intro h
    exact Nat.lt_of_lt_of_le (lt_pow_nDigits u) (Nat.pow_le_pow_right (by decide) h)
  · exact nDigits_le hk

/-- Nine digits, zeros ahead. -/
def pad9 (w : Nat) : List UInt8 := List.replicate (9 - (decDigits w).length) 48 ++ decDigits w

theorem dval_zeros (k : Nat) : dval (List.replicate k 48) = 0 := by
  induction k with
  | zero => rfl
  | succ k ih =>
    have := dval_append [48] (List.replicate k 48)
    rw [dval_single, ih, dgv_eq] at this
    simpa [List.replicate_succ] using this

theorem pad9_len (w : Nat) (h : w < 1000000000) : (pad9 w).length = 9 := by
  have := (decDigits_len (u := w) (k := 9) (by decide)).2 (by simpa using h)
  simp [pad9]; omega
theorem pad9_dval (w : Nat) : dval (pad9 w) = w := by
  unfold pad9
  rw [dval_append, dval_zeros, decDigits_dval]; simp
theorem pad9_dig (w : Nat) : ∀ c ∈ pad9 w, isDig c := by
  intro c hc
  simp only [pad9, List.mem_append, List.mem_replicate] at hc
  rcases hc with ⟨_, rfl⟩ | hc
  · exact ⟨by decide, by decide⟩
  · exact decDigits_dig w c hc

theorem decDigits_pad (u w : Nat) (hu : 0 < u) (hw : w < 1000000000) : decDigits (u * 1000000000 + w) = decDigits u ++ pad9 w := by
  have hv : ValidN (decDigits u ++ pad9 w) := by
    refine ⟨by simp [decDigits_ne], fun c hc => ?_, fun _ => ?_⟩
    · rcases List.mem_append.1 hc with hc | hc
      · exact decDigits_dig u c hc
      · exact pad9_dig w c hc
    · rw [head_app _ _ (decDigits_ne u)]
      exact decDigits_head u hu
  have := decDigits_of_valid _ hv
  rw [dval_append, decDigits_dval, pad9_dval, pad9_len w hw] at this
  exact this

theorem parseUintM_dig (M : Nat) (hM : M < 4294967296) : ∀ (l : List UInt8) (acc : Nat), (∀ c ∈ l, isDig c) → dvalA acc l ≤ M → parseUintM M acc l = .ok (dvalA acc l)
  | [], acc, _, _ => rfl
  | c :: r, acc, h, hb => by
    have hc := h c List.mem_cons_self
    have hmono : acc * 10 + dgv c ≤ dvalA (acc * 10 + dgv c) r := by
      rw [dvalA_eq]
      have := Nat.mul_le_mul_left (acc * 10 + dgv c) (Nat.one_le_pow r.length 10 (by decide))
      omega
    simp only [dvalA] at hb
    unfold isDig at hc
    simp only [parseUintM]
    have e := dgv_eq c
    rw [if_pos hc, if_neg (by omega), ← e, if_neg (by omega)]
    exact parseUintM_dig M hM r _ (fun x hx => h x (List.mem_cons_of_mem _ hx)) hb

/-- strconv.ParseUint of at most nine digits. -/
theorem parse9 (l : List UInt8) (h0 : l ≠ []) (h : ∀ c ∈ l, isDig c) (h9 : l.length ≤ 9) : parseUintB 32 l = .ok (dval l) := by
  unfold parseUintB
  rw [if_neg h0]
  have h1 := dval_lt l h
  have h2 : 10 ^ l.length ≤ 10 ^ 9 := Nat.pow_le_pow_right (by decide) h9
  exact parseUintM_dig _ (by decide) l 0 h (by show dval l ≤ _; omega)

end Go.Proofs.YthkkdepppjiaeaaGreatDoor

/- Words to the base 10^9, the least one first: their value, canonical lists, order. -/
namespace Go.Proofs.YthkkdepppjiaeaaGreatDoor

def wval : List Int → Int
  | [] => 0
  | x :: r => x + 1000000000 * wval r

def WOk (l : List Int) : Prop := ∀ x ∈ l, 0 ≤ x ∧ x < 1000000000
/-- No zero at the end. -/
def Can (l : List Int) : Prop := WOk l ∧ l.getLast? ≠ some 0

/-- The base to a power. -/
def bpow (k : Nat) : Int := (1000000000 : Int) ^ k
theorem bpow_zero : bpow 0 = 1 := rfl
theorem bpow_succ (k : Nat) : bpow (k + 1) = 1000000000 * bpow k := by unfold bpow; rw [Int.pow_succ]; grind
theorem bpow_pos (k : Nat) : 1 ≤ bpow k := by
  induction k with
  | zero => decide
  | succ k ih => rw [bpow_succ]; omega
theorem bpow_add (a b : Nat) : bpow (a + b) = bpow a * bpow b := by unfold bpow; rw [Int.pow_add]
theorem bpow_mono {a b : Nat} (h : a ≤ b) : bpow a ≤ bpow b := by
  obtain ⟨c, rfl⟩ := Nat.exists_eq_add_of_le h
  rw [bpow_add]
  have h1 := bpow_pos a
  have h2 := bpow_pos c
  have := Int.mul_le_mul_of_nonneg_left h2 (show 0 ≤ bpow a by omega)
  omega

theorem WOk.nil : WOk [] := fun _ h => by cases h
theorem WOk.tail {x : Int} {r : List Int} (h : WOk (x :: r)) : WOk r := fun y hy => h y (List.mem_cons_of_mem _ hy)
theorem WOk.head {x : Int} {r : List Int} (h : WOk (x :: r)) : 0 ≤ x ∧ x < 1000000000 := h x List.mem_cons_self
theorem WOk.cons {x : Int} {r : List Int} (h : 0 ≤ x ∧ x < 1000000000) (hr : WOk r) : WOk (x :: r) := fun y hy => by
  rcases List.mem_cons.1 hy with rfl | hy
  · exact h
  · exact hr y hy
theorem WOk.append {a b : List Int} (ha : WOk a) (hb : WOk b) : WOk (a ++ b) := fun x hx => (List.mem_append.1 hx).elim (ha x) (hb x)
theorem WOk.left {a b : List Int} (h : WOk (a ++ b)) : WOk a := fun x hx => h x (List.mem_append_left _ hx)
theorem WOk.right {a b : List Int} (h : WOk (a ++ b)) : WOk b := fun x hx => h x (List.mem_append_right _ hx)
theorem WOk.take {l : List Int} (h : WOk l) (k : Nat) : WOk (l.take k) := fun x hx => h x (List.mem_of_mem_take hx)
theorem WOk.drop {l : List Int} (h : WOk l) (k : Nat) : WOk (l.drop k) := fun x hx => h x (List.mem_of_mem_drop hx)
theorem WOk.getD {l : List Int} (h : WOk l) (i : Nat) : 0 ≤ l.getD i 0 ∧ l.getD i 0 < 1000000000 := by
  rw [List.getD_eq_getElem?_getD]
  by_cases hi : i < l.length
  · rw [List.getElem?_eq_getElem hi]; exact h _ (List.getElem_mem hi)
  · rw [List.getElem?_eq_none (by omega)]; exact ⟨by decide, by decide⟩
theorem WOk.set {l : List Int} (h : WOk l) (i : Nat) {v : Int} (hv : 0 ≤ v ∧ v < 1000000000) : WOk (l.set i v) := fun x hx => by
  rcases List.mem_or_eq_of_mem_set hx with hx | rfl
  · exact h x hx
  · exact hv
theorem WOk.replicate (k : Nat) : WOk (List.replicate k 0) := fun x hx => by
  rw [List.mem_replicate] at hx
  rw [hx.2]; exact ⟨by decide, by decide⟩

theorem wval_append (a b : List Int) : wval (a ++ b) = wval a + bpow a.length * wval b := by
  induction a with
  | nil => simp [wval, bpow_zero]
  | cons x r ih =>
    simp only [List.cons_append, wval, ih, List.length_cons, bpow_succ]
    grind
theorem wval_single (x : Int) : wval [x] = x := by simp [wval]
theorem wval_snoc (a : List Int) (x : Int) : wval (a ++ [x]) = wval a + bpow a.length * x := by rw [wval_append, wval_single]
theorem wval_replicate (k : Nat) : wval (List.replicate k 0) = 0 := by
  induction k with
  | zero => rfl
  | succ k ih => simp [List.replicate_succ, wval, ih]
theorem wval_nonneg {l : List Int} (h : WOk l) : 0 ≤ wval l := by
  induction l with
  | nil => exact Int.le_refl _
  | cons x r ih =>
    have := ih h.tail
    have := h.head
    simp only [wval]
    omega
theorem wval_lt {l : List Int} (h : WOk l) : wval l < bpow l.length := by
  induction l with
  | nil => decide
  | cons x r ih =>
    have := ih h.tail
    have := h.head
    simp only [wval, List.length_cons, bpow_succ]
    omega

theorem Can.nil : Can [] := ⟨WOk.nil, by simp⟩
theorem Can.tail {x : Int} {r : List Int} (h : Can (x :: r)) : Can r := by
  refine ⟨h.1.tail, fun e => h.2 ?_⟩
  cases r with
  | nil => simp at e
  | cons y s => rw [List.getLast?_cons_cons]; exact e
theorem Can.low {l : List Int} (h : Can l) (h0 : l ≠ []) : bpow (l.length - 1) ≤ wval l := by
  rcases List.eq_nil_or_concat l with rfl | ⟨m, c, rfl⟩
  · exact absurd rfl h0
  · rw [List.concat_eq_append] at *
    have hc := h.1 c (by simp)
    have hc0 : c ≠ 0 := fun e => h.2 (by simp [e])
    have := wval_nonneg h.1.left
    have := bpow_pos m.length
    rw [wval_snoc]
    simp only [List.length_append, List.length_singleton, Nat.add_sub_cancel]
    have := Int.mul_le_mul_of_nonneg_left (show 1 ≤ c by omega) (show 0 ≤ bpow m.length by omega)
    omega
theorem Can.pos {l : List Int} (h : Can l) (h0 : l ≠ []) : 1 ≤ wval l := by
  have := h.low h0
  have := bpow_pos (l.length - 1)
  omega
theorem Can.zero {l : List Int} (h : Can l) : wval l = 0 ↔ l = [] := by
  constructor
  · intro e
    by_cases h0 : l = []
    · exact h0
    · have := h.pos h0; omega
  · rintro rfl; rfl
theorem Can.len_lt {a b : List Int} (ha : Can a) (hb : Can b) (h : a.length < b.length) : wval a < wval b := by
  have h1 := wval_lt ha.1
  have h2 := hb.low (by rintro rfl; simp at h)
  have := bpow_mono (show a.length ≤ b.length - 1 by omega)
  omega
theorem Can.len_le {a b : List Int} (ha : Can a) (hb : Can b) (h : wval a ≤ wval b) : a.length ≤ b.length := by
  by_cases h1 : b.length < a.length
  · have := hb.len_lt ha h1; omega
  · omega
/-- Words of one number are one list. -/
theorem Can.ext {a b : List Int} (ha : Can a) (hb : Can b) (h : wval a = wval b) : a = b := by
  induction a generalizing b with
  | nil => exact ((hb.zero).1 (by rw [← h]; rfl)).symm
  | cons x r ih =>
    cases b with
    | nil => exact (ha.zero).1 (by rw [h]; rfl)
    | cons y s =>
      have h1 := ha.1.head
      have h2 := hb.1.head
      simp only [wval] at h
      have e1 : x = y := by omega
      have e2 : wval r = wval s := by omega
      rw [e1, ih ha.tail hb.tail e2]

/-- The words without zeros at the end. -/
def trimL (l : List Int) : List Int := (l.reverse.dropWhile (· == 0)).reverse
theorem trimL_snoc_zero (l : List Int) : trimL (l ++ [0]) = trimL l := by simp [trimL]
theorem trimL_snoc (l : List Int) (x : Int) (h : x ≠ 0) : trimL (l ++ [x]) = l ++ [x] := by simp [trimL, h]
theorem trimL_len (l : List Int) : (trimL l).length ≤ l.length := by
  unfold trimL
  have := (List.dropWhile_sublist (l := l.reverse) (· == (0 : Int))).length_le
  simpa using this
theorem trimL_wval (l : List Int) : wval (trimL l) = wval l := by
  suffices H : ∀ (k : Nat) (l : List Int), l.length = k → wval (trimL l) = wval l from H _ l rfl
  intro k
  induction k with
  | zero => intro l hl; rw [List.eq_nil_of_length_eq_zero hl]; rfl
  | succ k ih =>
    intro l hl
    rcases List.eq_nil_or_concat l with rfl | ⟨m, c, rfl⟩
    · simp at hl
    · rw [List.concat_eq_append] at *
      by_cases hc : c = 0
      · subst hc
        rw [trimL_snoc_zero, ih m (by simpa using hl), wval_snoc]; omega
      · rw [trimL_snoc m c hc]
theorem trimL_ok {l : List Int} (h : WOk l) : Can (trimL l) := by
  suffices H : ∀ (k : Nat) (l : List Int), l.length = k → WOk l → Can (trimL l) from H _ l rfl h
  intro k
  induction k with
  | zero => intro l hl _; rw [List.eq_nil_of_length_eq_zero hl]; exact Can.nil
  | succ k ih =>
    intro l hl h
    rcases List.eq_nil_or_concat l with rfl | ⟨m, c, rfl⟩
    · simp at hl
    · rw [List.concat_eq_append] at *
      by_cases hc : c = 0
      · subst hc
        rw [trimL_snoc_zero]
        exact ih m (by simpa using hl) h.left
      · rw [trimL_snoc m c hc]
        exact ⟨h, by simpa using hc⟩
theorem trimL_can {l : List Int} (h : Can l) : trimL l = l := (trimL_ok h.1).ext h (trimL_wval l)

/-- The words of a natural number. -/
def ws (n : Nat) : List Int :=
  if h : n = 0 then [] else ((n % 1000000000 : Nat) : Int) :: ws (n / 1000000000)
termination_by n
decreasing_by omega
theorem ws_zero : ws 0 = [] := by rw [ws]; simp
theorem ws_pos {n : Nat} (h : n ≠ 0) : ws n = ((n % 1000000000 : Nat) : Int) :: ws (n / 1000000000) := by rw [ws, dif_neg h]
theorem ws_val (n : Nat) : wval (ws n) = n := by
  induction n using Nat.strongRecOn with
  | _ n ih =>
    by_cases h : n = 0
    · rw [h, ws_zero]; rfl
    · rw [ws_pos h]
      simp only [wval]
      rw [ih _ (by omega)]
      omega
theorem ws_can (n : Nat) : Can (ws n) := by
  induction n using Nat.strongRecOn with
  | _ n ih =>
    by_cases h : n = 0
    · rw [h, ws_zero]; exact Can.nil
    · rw [ws_pos h]
      have H := ih (n / 1000000000) (by omega)
      refine ⟨WOk.cons (by omega) H.1, ?_⟩
      by_cases h2 : n / 1000000000 = 0
      · rw [h2, ws_zero]
        simp only [List.getLast?_singleton, ne_eq, Option.some.injEq]
        omega
      · rw [ws_pos h2, List.getLast?_cons_cons, ← ws_pos h2]
        exact H.2
theorem ws_eq {l : List Int} {n : Nat} (h : Can l) (e : wval l = n) : l = ws n := h.ext (ws_can n) (by rw [ws_val, e])
theorem ws_trim {l : List Int} {n : Nat} (h : WOk l) (e : wval l = n) : trimL l = ws n := ws_eq (trimL_ok h) (by rw [trimL_wval, e])
theorem ws_nil_iff {n : Nat} : ws n = [] ↔ n = 0 := by
  rw [← (ws_can n).zero, ws_val]; omega
theorem ws_len_iff {n k : Nat} : (ws n).length ≤ k ↔ (n : Int) < bpow k := by
  constructor
  · intro h
    have := wval_lt (ws_can n).1
    have := bpow_mono h
    rw [ws_val] at *
    omega
  · intro h
    by_cases h1 : k < (ws n).length
    · have h2 := (ws_can n).low (by intro e; rw [e] at h1; simp at h1)
      have := bpow_mono (show k ≤ (ws n).length - 1 by omega)
      rw [ws_val] at h2
      omega
    · omega

/-- The comparison of lists of one length, from the last word on. -/
theorem wval_top {a b : List Int} (ha : WOk a) (hb : WOk b) (hl : a.length = b.length) {x y : Int} (h : x < y) : wval (a ++ [x]) < wval (b ++ [y]) := by
  rw [wval_snoc, wval_snoc, hl]
  have h1 := wval_lt ha
  have h2 := wval_nonneg hb
  rw [hl] at h1
  have h3 := bpow_pos b.length
  have := Int.mul_le_mul_of_nonneg_left (show x + 1 ≤ y by omega) (show 0 ≤ bpow b.length by omega)
  grind

end Go.Proofs.YthkkdepppjiaeaaGreatDoor

/- Walks of the program's package natural: Valid. -/
namespace Go.Proofs.YthkkdepppjiaeaaGreatDoor
open Go.RowKit

def digB (l : List UInt8) : Bool := l.all fun c => decide (48 ≤ c.toNat) && decide (c.toNat ≤ 57)
/-- What natural.Valid answers. -/
def vnB (l : List UInt8) : Bool := !l.isEmpty && !(decide (1 < l.length) && decide (l.head? = some 48)) && digB l

theorem vnB_iff (l : List UInt8) : vnB l = true ↔ ValidN l := by
  unfold vnB ValidN digB isDig
  simp only [Bool.and_eq_true, Bool.not_eq_true', List.all_eq_true, decide_eq_true_eq, Bool.and_eq_false_iff, decide_eq_false_iff_not, List.isEmpty_eq_false_iff]
  constructor
  · rintro ⟨⟨h1, h2⟩, h3⟩
    exact ⟨h1, h3, fun h => h2.resolve_left (fun hn => hn h)⟩
  · rintro ⟨h1, h2, h3⟩
    refine ⟨⟨h1, ?_⟩, h2⟩
    by_cases h : 1 < l.length
    · exact .inr (h3 h)
    · exact .inl h

theorem vnB_empty (s : ByteArray) (h : s.toList.isEmpty = true) : vnB s.data.toList = false := by
  rw [ByteArray.toList_eq, List.isEmpty_iff] at h
  rw [h]; rfl
theorem vnB_lead (s : ByteArray) (h : 1 < s.size) (h0 : ((s[0]'(by omega)).toNat : Int) = 48) : vnB s.data.toList = false := by
  have h2 : s.data.toList.head? = some 48 := by
    have hl : 0 < s.data.toList.length := by simp; omega
    rw [List.head?_eq_getElem?, List.getElem?_eq_getElem hl]
    congr 1
    apply UInt8.toNat.inj
    have : s.data.toList[0] = s[0]'(by omega) := by simp; rfl
    rw [this]
    show _ = 48
    omega
  unfold vnB
  simp [h2]
  intro _ h3
  omega
theorem vnB_bad (s : ByteArray) (k : Nat) (h : k < s.size) (h0 : ¬ (48 ≤ ((s[k]'h).toNat : Int) ∧ ((s[k]'h).toNat : Int) ≤ 57)) : vnB s.data.toList = false := by
  have : digB s.data.toList = false := by
    unfold digB
    rw [Bool.eq_false_iff]
    intro h1
    rw [List.all_eq_true] at h1
    have := h1 (s[k]'h) (by
      have : s.data.toList[k]'(by simpa using h) = s[k]'h := by simp; rfl
      rw [← this]; exact List.getElem_mem _)
    simp at this
    omega
  unfold vnB
  rw [this]; simp
theorem vnB_good (s : ByteArray) (h : s.toList.isEmpty = false) (h1 : ¬ (1 < s.size) ∨ ¬ ∀ h : 0 < s.size, ((s[0]'h).toNat : Int) = 48) (h2 : ∀ k, (h : k < s.size) → 48 ≤ ((s[k]'h).toNat : Int) ∧ ((s[k]'h).toNat : Int) ≤ 57) : vnB s.data.toList = true := by
  rw [vnB_iff]
  refine ⟨?_, ?_, ?_⟩
  · intro e; rw [ByteArray.toList_eq, e] at h; simp at h
  · intro c hc
    obtain ⟨k, hk, rfl⟩ := List.getElem_of_mem hc
    have hk' : k < s.size := by simpa using hk
    have : s.data.toList[k] = s[k]'hk' := by simp; rfl
    rw [this]
    have := h2 k hk'
    unfold isDig
    omega
  · intro hl e
    have hl' : 1 < s.size := by simpa using hl
    rcases h1 with h1 | h1
    · exact h1 hl'
    · apply h1
      intro hh
      have : s.data.toList[0]'(by omega) = s[0]'hh := by simp; rfl
      rw [List.head?_eq_getElem?, List.getElem?_eq_getElem (by omega)] at e
      rw [← this]
      injection e with e
      rw [e]; rfl

theorem ret_bool {a b : Bool} (h : a = b) : Ending.returned (.bool a) = .returned (.bool b) := by rw [h]
theorem ret_int {k : IntKind} {a b : Int} (h : a = b) : Ending.returned (.int k a) = .returned (.int k b) := by rw [h]

set_option maxHeartbeats 400000 in
theorem na_valid (s : ByteArray) (w : World) (hs : s.size ≤ maxLen) :
    Calls Tryz.prog 170 #[.string s] w fun e w' => e = .returned (.bool (vnB s.data.toList)) ∧ w' = w := by
  unfold maxLen at hs
  have H0 := Lib.hid (vnB_empty s)
  have HL := Lib.hid (vnB_lead s)
  have HB := Lib.hid (vnB_bad s)
  have HG := Lib.hid (vnB_good s)
  generalize vnB s.data.toList = v at *
  cases hc : s.toList.isEmpty with
  | true =>
    have HC := Lib.hid hc
    have h0 : s.toList = [] := by simpa using hc
    clear hc
    go_enter Tryz.func170, Tryz.ntmps170
    go_wp2
    go_ret
    exact ⟨ret_bool (H0.out HC.out).symm, rfl⟩
  | false =>
    have hp : 0 < s.size := by
      rcases Nat.eq_zero_or_pos s.size with e | e
      · rw [ByteArray.toList_eq, List.isEmpty_eq_false_iff] at hc
        exact absurd (List.eq_nil_of_length_eq_zero (by simpa using e)) hc
      · exact e
    by_cases hd : 1 < s.size ∧ ((s[0]'(by omega)).toNat : Int) = 48
    · have h1 : 1 < s.size := hd.1
      have e0 : (((s[0]'(by omega)).toNat : Int) == 48) = true := by simpa using hd.2
      have HD := Lib.hid hd
      clear hd
      go_enter Tryz.func170, Tryz.ntmps170
      go_wp2
      go_ret
      exact ⟨ret_bool (HL.out HD.out.1 HD.out.2).symm, rfl⟩
    · have HC := Lib.hid hc
      have HD := Lib.hid hd
      have HX : Hid (∀ (_ : ∀ k, (h : k < s.size) → 48 ≤ ((s[k]'h).toNat : Int) ∧ ((s[k]'h).toNat : Int) ≤ 57), v = true) := Lib.hid (fun h2 => HG.out HC.out (by
        by_cases h1 : 1 < s.size
        · exact .inr fun h => HD.out ⟨h1, h (by omega)⟩
        · exact .inl h1) h2)
      clear HG HC HD H0 HL
      by_cases h1 : 1 < s.size
      · have e0 : (((s[0]'(by omega)).toNat : Int) == 48) = false := by
          rw [beq_eq_false_iff_ne]; exact fun e => hd ⟨h1, e⟩
        clear hd
        go_enter Tryz.func170, Tryz.ntmps170
        go_wp2
        go_loop [18] (fun i => ∃ k : Nat, k ≤ s.size ∧ i = .int .i64 k ∧ Hid (∀ j, (h : j < s.size) → j < k → 48 ≤ ((s[j]'h).toNat : Int) ∧ ((s[j]'h).toNat : Int) ≤ 57)) (fun i => s.size - (intOf i).toNat)
        case atStart => exact ⟨0, Nat.zero_le _, rfl, Lib.hid (fun j _ h => by omega)⟩
        case round =>
          obtain ⟨k, hk, rfl, HK⟩ := hrel
          by_cases hlt : k < s.size
          · by_cases hb : 48 ≤ ((s[k]'hlt).toNat : Int) ∧ ((s[k]'hlt).toNat : Int) ≤ 57
            · have hb1 := hb.1
              have hb2 := hb.2
              clear hb
              go_wp2
              go_round
              case rel => exact ⟨k + 1, by omega, by go_num, Lib.hid (fun j h hj => by
                by_cases e : j = k
                · subst e; exact ⟨hb1, hb2⟩
                · exact HK.out j h (by omega))⟩
              case measure => simp [intOf]; omega
            · have HH := Lib.hid (HB.out k hlt hb)
              by_cases hlo : ((s[k]'hlt).toNat : Int) < 48
              · clear hb
                go_wp2
                go_ret
                exact ⟨ret_bool HH.out.symm, rfl⟩
              · have hhi : 57 < ((s[k]'hlt).toNat : Int) := by omega
                clear hb
                go_wp2
                go_ret
                exact ⟨ret_bool HH.out.symm, rfl⟩
          · have HH := Lib.hid (HX.out (fun j h => HK.out j h (by omega)))
            go_wp2
            go_ret
            exact ⟨ret_bool HH.out.symm, rfl⟩
      · clear hd
        go_enter Tryz.func170, Tryz.ntmps170
        go_wp2
        go_loop [18] (fun i => ∃ k : Nat, k ≤ s.size ∧ i = .int .i64 k ∧ Hid (∀ j, (h : j < s.size) → j < k → 48 ≤ ((s[j]'h).toNat : Int) ∧ ((s[j]'h).toNat : Int) ≤ 57)) (fun i => s.size - (intOf i).toNat)
        case atStart => exact ⟨0, Nat.zero_le _, rfl, Lib.hid (fun j _ h => by omega)⟩
        case round =>
          obtain ⟨k, hk, rfl, HK⟩ := hrel
          by_cases hlt : k < s.size
          · by_cases hb : 48 ≤ ((s[k]'hlt).toNat : Int) ∧ ((s[k]'hlt).toNat : Int) ≤ 57
            · have hb1 := hb.1
              have hb2 := hb.2
              clear hb
              go_wp2
              go_round
              case rel => exact ⟨k + 1, by omega, by go_num, Lib.hid (fun j h hj => by
                by_cases e : j = k
                · subst e; exact ⟨hb1, hb2⟩
                · exact HK.out j h (by omega))⟩
              case measure => simp [intOf]; omega
            · have HH := Lib.hid (HB.out k hlt hb)
              by_cases hlo : ((s[k]'hlt).toNat : Int) < 48
              · clear hb
                go_wp2
                go_ret
                exact ⟨ret_bool HH.out.symm, rfl⟩
              · have hhi : 57 < ((s[k]'hlt).toNat : Int) := by omega
                clear hb
                go_wp2
                go_ret
                exact ⟨ret_bool HH.out.symm, rfl⟩
          · have HH := Lib.hid (HX.out (fun j h => HK.out j h (by omega)))
            go_wp2
            go_ret
            exact ⟨ret_bool HH.out.symm, rfl⟩

end Go.Proofs.YthkkdepppjiaeaaGreatDoor

/- Walks of the program's package natural: trim, small, of, compare. -/
namespace Go.Proofs.YthkkdepppjiaeaaGreatDoor
open Go.RowKit

/-- The words of a slice at the head of its block, as they lie in memory. -/
def Row (w : World) (A : Option Addr) (l : List Int) : Prop :=
  l = [] ∨ ∃ b, A = some ⟨b, 0, none⟩ ∧ ∀ j, j < l.length → w.cell? ⟨b, j, none⟩ = some (.int .u32 (l.getD j 0))

theorem Row.nil (w : World) (A : Option Addr) : Row w A [] := .inl rfl
theorem Row.below {w w' : World} {A : Option Addr} {l : List Int} (h : Row w A l) (hb : Below w.heap.size w w') : Row w' A l := by
  rcases h with h | ⟨b, rfl, h⟩
  · exact .inl h
  · refine .inr ⟨b, rfl, fun j hj => ?_⟩
    have hc := h j hj
    exact (hb.cell (World.block_lt_of_cell? w _ hc)).trans hc

theorem trim_step {l : List Int} (h : 0 < l.length) (h0 : l.getD (l.length - 1) 0 = 0) : trimL l = trimL (l.take (l.length - 1)) := by
  rcases List.eq_nil_or_concat l with rfl | ⟨m, c, rfl⟩
  · simp at h
  · rw [List.concat_eq_append] at *
    have e : c = 0 := by simpa using h0
    subst e
    rw [trimL_snoc_zero]; simp
theorem trim_stop {l : List Int} (h : l.length = 0 ∨ l.getD (l.length - 1) 0 ≠ 0) : trimL l = l := by
  rcases List.eq_nil_or_concat l with rfl | ⟨m, c, rfl⟩
  · rfl
  · rw [List.concat_eq_append] at *
    rcases h with h | h
    · simp at h
    · exact trimL_snoc _ _ (by simpa using h)

theorem ret_slice {A : Option Addr} {a b c : Nat} (h : a = b) : Ending.returned (.slice A a c) = .returned (.slice A b c) := by rw [h]

set_option maxHeartbeats 400000 in
theorem na_trim (A : Option Addr) (c : Nat) (l : List Int) (w : World) (hlc : l.length ≤ c) (hc : c ≤ maxLen) (hr : Row w A l) :
    Calls Tryz.prog 242 #[.slice A l.length c] w fun e w' => e = .returned (.slice A (trimL l).length c) ∧ w' = w := by
  unfold maxLen at hc
  have HR := Lib.hid hr
  clear hr
  go_enter Tryz.func242, Tryz.ntmps242
  go_wp2
  go_loop [0] (fun x => ∃ k : Nat, k ≤ l.length ∧ x = .slice A k c ∧ Hid (trimL (l.take k) = trimL l)) (fun x => match x with | .slice _ k _ => k | _ => 0)
  case atStart => exact ⟨l.length, Nat.le_refl _, rfl, Lib.hid (by rw [List.take_length])⟩
  case round =>
    obtain ⟨k, hk, rfl, HK⟩ := hrel
    by_cases h0 : 0 < k
    · have hne : ¬ l = [] := by rintro rfl; simp at hk; omega
      obtain ⟨b, rfl, hcell⟩ := HR.out.resolve_left hne
      have hc1 := hcell (k - 1) (by omega)
      clear hcell hne
      by_cases hz : l.getD (k - 1) 0 = 0
      · have HZ := Lib.hid hz
        rw [hz] at hc1
        clear hz
        go_wp2
        exact ⟨⟨k - 1, by omega, by simp, Lib.hid (by
          have hl : (l.take k).length = k := by simp; omega
          have e := trim_step (l := l.take k) (by omega) (by rw [hl, List.getD_eq_getElem?_getD, List.getElem?_take_of_lt (by omega), ← List.getD_eq_getElem?_getD]; exact HZ.out)
          rw [hl, List.take_take, Nat.min_eq_left (by omega)] at e
          rw [← e]; exact HK.out)⟩, by simp; omega⟩
      · have HZ := Lib.hid hz
        have e1 : (l[k - 1]?.getD 0 == 0) = false := by rw [beq_eq_false_iff_ne, ← List.getD_eq_getElem?_getD]; exact hz
        clear hz
        go_wp2
        go_ret
        exact ⟨ret_slice (by
          have hl : (l.take k).length = k := by simp; omega
          rw [← HK.out, trim_stop, hl]
          rw [hl, List.getD_eq_getElem?_getD, List.getElem?_take_of_lt (by omega), ← List.getD_eq_getElem?_getD]
          exact .inr HZ.out), rfl⟩
    · go_wp2
      go_ret
      exact ⟨ret_slice (by
        obtain rfl : k = 0 := by omega
        rw [← HK.out]; rfl), rfl⟩
end Go.Proofs.YthkkdepppjiaeaaGreatDoor
