/- A PART OF THE PROOF, JOINED OUT OF 6 TEXTS. -/
import Derived.Test.YthkkdepppjiaeaaGreatDoorSkBack
import Derived.Test.YthkkdepppjiaeaaGreatDoorSbOpening
import Derived.Test.YthkkdepppjiaeaaGreatDoorSaOpening
import Derived.BigRegion
import Derived.BigQuiet
import Derived.Test.YthkkdepppjiaeaaGreatDoorScOpening
import Derived.Test.YthkkdepppjiaeaaGreatDoorPhInteger
import Derived.Test.YthkkdepppjiaeaaGreatDoorSgChecks
/- Words joined by a byte and cut again: the plain laws. -/
namespace Go.Proofs.YthkkdepppjiaeaaGreatDoor

theorem ix_part (c : UInt8) : ∀ a b : List UInt8, c ∉ a → Lib.index (a ++ c :: b) [c] = (a.length : Int)
  | [], b, _ => by simp [Lib.index, List.isPrefixOf]
  | x :: a, b, h => by
    have hx : ¬ c = x := fun e => h (by rw [e]; simp)
    have ih := ix_part c a b (fun k => h (List.mem_cons_of_mem _ k))
    show (if ([c] : List UInt8).isPrefixOf (x :: (a ++ c :: b)) then 0 else if Lib.index (a ++ c :: b) [c] == -1 then -1 else Lib.index (a ++ c :: b) [c] + 1) = _
    rw [if_neg (by simp [List.isPrefixOf, hx]), ih, if_neg (by rw [beq_iff_eq]; omega), List.length_cons]
    omega
theorem ix_no (c : UInt8) : ∀ l : List UInt8, c ∉ l → Lib.index l [c] = -1
  | [], _ => by simp [Lib.index]
  | x :: l, h => by
    have hx : ¬ c = x := fun e => h (by rw [e]; simp)
    have ih := ix_no c l (fun k => h (List.mem_cons_of_mem _ k))
    show (if ([c] : List UInt8).isPrefixOf (x :: l) then 0 else if Lib.index l [c] == -1 then -1 else Lib.index l [c] + 1) = _
    rw [if_neg (by simp [List.isPrefixOf, hx]), ih]
    rfl
theorem split_part (c : UInt8) (k : Nat) (a b : List UInt8) (h : c ∉ a) : Lib.splitK [c] 0 (k + 1) (a ++ c :: b) = a :: Lib.splitK [c] 0 k b := by
  show (if Lib.index (a ++ c :: b) [c] == -1 then [a ++ c :: b] else (a ++ c :: b).take ((Lib.index (a ++ c :: b) [c]).toNat + 0) :: Lib.splitK [c] 0 k ((a ++ c :: b).drop ((Lib.index (a ++ c :: b) [c]).toNat + [c].length))) = _
  rw [ix_part c a b h, if_neg (by rw [beq_iff_eq]; omega)]
  simp
theorem split_no (c : UInt8) (k : Nat) (l : List UInt8) (h : c ∉ l) : Lib.splitK [c] 0 k l = [l] := by
  cases k with
  | zero => rfl
  | succ k =>
    unfold Lib.splitK
    rw [ix_no c l h]
    rfl
theorem part_at (c : UInt8) : ∀ l : List UInt8, c ∉ l ∨ ∃ a b, l = a ++ c :: b ∧ c ∉ a
  | [] => .inl (by simp)
  | x :: l => by
    by_cases hx : c = x
    · exact .inr ⟨[], l, by rw [hx]; rfl, by simp⟩
    · rcases part_at c l with h | ⟨a, b, rfl, h⟩
      · exact .inl (by simp [hx, h])
      · exact .inr ⟨x :: a, b, rfl, by simp [hx, h]⟩
/-- Words, with a byte between any two. -/
def joinL (c : UInt8) : List (List UInt8) → List UInt8
  | [] => []
  | [w] => w
  | w :: v :: r => w ++ c :: joinL c (v :: r)
theorem joinL_cons (c : UInt8) (w : List UInt8) {ws : List (List UInt8)} (h : ws ≠ []) : joinL c (w :: ws) = w ++ c :: joinL c ws := by
  cases ws with
  | nil => exact absurd rfl h
  | cons v r => rfl
theorem split_ne (c : UInt8) (k : Nat) (l : List UInt8) : Lib.splitK [c] 0 k l ≠ [] := by
  cases k with
  | zero => simp [Lib.splitK]
  | succ k =>
    rcases part_at c l with h | ⟨a, b, rfl, h⟩
    · rw [split_no c _ l h]
      simp
    · rw [split_part c k a b h]
      simp
theorem join_split (c : UInt8) : ∀ (k : Nat) (l : List UInt8), joinL c (Lib.splitK [c] 0 k l) = l
  | 0, l => rfl
  | k + 1, l => by
    rcases part_at c l with h | ⟨a, b, rfl, h⟩
    · rw [split_no c _ l h]
      rfl
    · rw [split_part c k a b h, joinL_cons c a (split_ne c k b), join_split c k b]
theorem split_join (c : UInt8) : ∀ ws : List (List UInt8), ws ≠ [] → (∀ w, w ∈ ws → c ∉ w) → (joinL c ws).count c = ws.length - 1 ∧ Lib.splitK [c] 0 (ws.length - 1) (joinL c ws) = ws
  | [], h, _ => absurd rfl h
  | [w], _, h => ⟨List.count_eq_zero.2 (h w (by simp)), rfl⟩
  | w :: v :: r, _, h => by
    obtain ⟨h1, h2⟩ := split_join c (v :: r) (by simp) (fun x hx => h x (List.mem_cons_of_mem _ hx))
    have hw : c ∉ w := h w (by simp)
    rw [joinL_cons c w (by simp)]
    constructor
    · rw [List.count_append, List.count_cons_self, h1, List.count_eq_zero.2 hw]
      simp
    · show Lib.splitK [c] 0 ((v :: r).length - 1 + 1) _ = _
      rw [split_part c _ w _ hw, h2]
/-- The words of a text, as lists. -/
theorem wds_data (s : ByteArray) : (wds s).map (·.data.toList) = Lib.splitK [32] 0 (s.data.toList.count 32) s.data.toList := by
  unfold wds
  rw [Lib.splitB_data]
  show Lib.splitK [32] 0 (Lib.count s.data.toList [32]) _ = _
  rw [Lib.count_one]
theorem wds_join (s : ByteArray) : joinL 32 ((wds s).map (·.data.toList)) = s.data.toList := by rw [wds_data, join_split]
theorem map_data_inj : ∀ {a b : List ByteArray}, a.map (·.data.toList) = b.map (·.data.toList) → a = b
  | [], [], _ => rfl
  | [], _ :: _, h => by simp at h
  | _ :: _, [], h => by simp at h
  | x :: a, y :: b, h => by
    simp only [List.map_cons, List.cons.injEq] at h
    obtain ⟨h1, h2⟩ := h
    have e : x = y := by
      obtain ⟨⟨x⟩⟩ := x
      obtain ⟨⟨y⟩⟩ := y
      simp only at h1
      rw [h1]
    rw [e, map_data_inj h2]
theorem wds_of_join {s : ByteArray} {ws : List ByteArray} (h0 : ws ≠ []) (h : ∀ w, w ∈ ws → (32 : UInt8) ∉ w.data.toList) (hs : s.data.toList = joinL 32 (ws.map (·.data.toList))) : wds s = ws := by
  apply map_data_inj
  obtain ⟨h1, h2⟩ := split_join 32 (ws.map (·.data.toList)) (by simpa using h0) (fun w hw => by
    obtain ⟨x, hx, rfl⟩ := List.mem_map.1 hw
    exact h x hx)
  rw [wds_data, hs, h1, h2]
theorem ln_hit {s : ByteArray} {a b : List UInt8} (h : (10 : UInt8) ∉ a) (hs : s.data.toList = a ++ 10 :: b) : lnCut s = (⟨a.toArray⟩, ⟨b.toArray⟩, true) := by
  unfold lnCut Lib.cut
  rw [hs, ix_part 10 a b h, if_pos (by omega)]
  simp
theorem ln_no {s : ByteArray} (h : (10 : UInt8) ∉ s.data.toList) : lnCut s = (s, ⟨#[]⟩, false) := by
  unfold lnCut Lib.cut
  rw [ix_no 10 _ h, if_neg (by decide)]
end Go.Proofs.YthkkdepppjiaeaaGreatDoor

/- Openings' lines, written and read again: the plain laws. -/
namespace Go.Proofs.YthkkdepppjiaeaaGreatDoor

/-- A line without its end, as its words. -/
theorem lnB_join (o : Opn) : (lnB o).data.toList = joinL 32 ((wdsO o).map (·.data.toList)) ++ [10] := by
  simp [lnB, wdsO, joinL]
/-- The text of openings. -/
def osT (os : List Opn) : List UInt8 := os.flatMap fun o => (lnB o).data.toList
theorem prT_osT (S : Nat → Opn) (n : Nat) : prT S n = osT ((List.range n).map S) := by
  unfold prT osT
  rw [List.flatMap_map]
/-- A read line is written as it was. -/
theorem rdL_line {s : ByteArray} {o : Opn} (h : RdL s o) : s.data.toList ++ [10] = (lnB o).data.toList := by
  rw [lnB_join, ← h.1, wds_join]
theorem lnRest_step (s t : ByteArray) (h : lnRest s 1 = t) : ∀ j, lnRest s (j + 1) = lnRest t j
  | 0 => h
  | j + 1 => by
    show (lnCut (lnRest s (j + 1))).2.1 = (lnCut (lnRest t j)).2.1
    rw [lnRest_step s t h j]
theorem upto_cons {α : Type} (f : Nat → α) (k : Nat) : upto f (k + 1) = f 0 :: upto (fun j => f (j + 1)) k := by
  unfold upto
  rw [List.range_succ_eq_map, List.map_cons, List.map_map]
  rfl
theorem lnAt_step (s t : ByteArray) (h : lnRest s 1 = t) (j : Nat) : lnAt s (j + 1) = lnAt t j := by
  unfold lnAt
  rw [lnRest_step s t h]
/-- One line more. -/
theorem rdAll_cons {s t : ByteArray} {a : List UInt8} {o : Opn} {os : List Opn} (ha : (10 : UInt8) ∉ a) (hs : s.data.toList = a ++ 10 :: t.data.toList) (ho : RdL ⟨a.toArray⟩ o) (h : RdAll t os) : RdAll s (o :: os) := by
  have hc := ln_hit ha hs
  have ht : (⟨t.data.toList.toArray⟩ : ByteArray) = t := by obtain ⟨⟨t⟩⟩ := t; rfl
  rw [ht] at hc
  have h1 : lnRest s 1 = t := by
    show (lnCut s).2.1 = t
    rw [hc]
  obtain ⟨k, k1, k2, k3⟩ := h
  refine ⟨k + 1, fun j hj => ?_, by rw [lnRest_step s t h1]; exact k2, ?_⟩
  · cases j with
    | zero =>
      show 0 < s.data.size
      rw [← Array.length_toList, hs, List.length_append, List.length_cons]
      omega
    | succ j => rw [lnRest_step s t h1]; exact k1 j (by omega)
  · rw [upto_cons]
    refine ⟨?_, ?_⟩
    · show RdOk ((lnCut s).1, (lnCut s).2.2) o
      rw [hc]
      exact ⟨rfl, ho⟩
    · have e : (fun j => lnAt s (j + 1)) = lnAt t := funext (lnAt_step s t h1)
      rw [e]
      exact k3
theorem rdAll_nil {s : ByteArray} (h : s.size = 0) : RdAll s [] := ⟨0, fun j hj => absurd hj (by omega), h, trivial⟩
/-- The lines of a text that was read. -/
theorem rdAll_parts {s : ByteArray} : ∀ {os : List Opn}, RdAll s os → (s.size = 0 ∧ os = []) ∨ ∃ (a : List UInt8) (t : ByteArray) (o : Opn) (os' : List Opn), os = o :: os' ∧ (10 : UInt8) ∉ a ∧ s.data.toList = a ++ 10 :: t.data.toList ∧ RdL ⟨a.toArray⟩ o ∧ RdAll t os'
  | os, ⟨0, _, h2, h3⟩ => by
    cases os with
    | nil => exact .inl ⟨h2, rfl⟩
    | cons o os => exact h3.elim
  | os, ⟨k + 1, h1, h2, h3⟩ => by
    rw [upto_cons] at h3
    cases os with
    | nil => exact h3.elim
    | cons o os =>
      obtain ⟨g1, g2⟩ := h3
      rcases part_at 10 s.data.toList with h | ⟨a, b, e, ha⟩
      · have : lnAt s 0 = (s, false) := by
          show ((lnCut s).1, (lnCut s).2.2) = _
          rw [ln_no h]
        rw [this] at g1
        exact (Bool.false_ne_true g1.1).elim
      · have hc := ln_hit ha e
        have h0 : lnRest s 1 = ⟨b.toArray⟩ := by
          show (lnCut s).2.1 = _
          rw [hc]
        have e0 : lnAt s 0 = (⟨a.toArray⟩, true) := by
          show ((lnCut s).1, (lnCut s).2.2) = _
          rw [hc]
        rw [e0] at g1
        refine .inr ⟨a, ⟨b.toArray⟩, o, os, rfl, ha, e, g1.2, k, fun j hj => ?_, ?_, ?_⟩
        · rw [← lnRest_step s _ h0]
          exact h1 (j + 1) (by omega)
        · rw [← lnRest_step s _ h0]
          exact h2
        · have ef : (fun j => lnAt s (j + 1)) = lnAt ⟨b.toArray⟩ := funext (lnAt_step s _ h0)
          rw [← ef]
          exact g2
/-- A text that was read is that of its openings. -/
theorem rdAll_text : ∀ {os : List Opn} {s : ByteArray}, RdAll s os → s.data.toList = osT os
  | [], s, h => by
    rcases rdAll_parts h with ⟨h0, _⟩ | ⟨_, _, _, _, h0, _⟩
    · rw [ba_empty h0]
      rfl
    · cases h0
  | o :: os, s, h => by
    rcases rdAll_parts h with ⟨_, h0⟩ | ⟨a, t, o', os', h0, h1, h2, h3, h4⟩
    · cases h0
    · simp only [List.cons.injEq] at h0
      obtain ⟨rfl, rfl⟩ := h0
      have e := rdL_line h3
      have e2 := rdAll_text h4
      show s.data.toList = (lnB o).data.toList ++ osT os
      rw [h2, ← e, e2]
      simp

theorem dl (l : List UInt8) : (⟨l.toArray⟩ : ByteArray).data.toList = l := rfl
theorem rdL_of {o : Opn} (hw : ∀ w, w ∈ wdsO o → (32 : UInt8) ∉ w.data.toList) (hr : 0 ≤ o.id ∧ o.id ≤ 9999 ∧ 0 ≤ o.frm ∧ o.frm ≤ 9999 ∧ 0 ≤ o.dst ∧ o.dst ≤ 9999 ∧ 1 ≤ o.kind ∧ o.kind ≤ 3) : RdL ⟨(joinL 32 ((wdsO o).map (·.data.toList))).toArray⟩ o :=
  ⟨wds_of_join (by simp [wdsO]) hw (dl _), hr⟩
theorem joinL_no (c : UInt8) {d : UInt8} (hd : d ≠ c) : ∀ ws : List (List UInt8), (∀ w, w ∈ ws → d ∉ w) → d ∉ joinL c ws
  | [], _ => by simp [joinL]
  | [w], h => h w (by simp)
  | w :: v :: r, h => by
    have ih := joinL_no c hd (v :: r) (fun x hx => h x (List.mem_cons_of_mem _ hx))
    rw [joinL_cons c w (by simp)]
    simp [h w (by simp), hd, ih]
/-- An opening that can be written and read. -/
def Rdy (o : Opn) : Prop := (∀ w, w ∈ wdsO o → (32 : UInt8) ∉ w.data.toList ∧ (10 : UInt8) ∉ w.data.toList) ∧ 0 ≤ o.id ∧ o.id ≤ 9999 ∧ 0 ≤ o.frm ∧ o.frm ≤ 9999 ∧ 0 ≤ o.dst ∧ o.dst ≤ 9999 ∧ 1 ≤ o.kind ∧ o.kind ≤ 3
theorem rdAll_osT_nil (s : ByteArray) (hs : s.data.toList = []) : RdAll s [] := by
  obtain ⟨⟨m⟩⟩ := s
  have hm : m = [] := hs
  subst hm
  exact rdAll_nil rfl
theorem rdAll_osT_cons {o : Opn} {os : List Opn} (ho : Rdy o) {s : ByteArray} (hs : s.data.toList = (lnB o).data.toList ++ osT os) (ih : RdAll ⟨(osT os).toArray⟩ os) : RdAll s (o :: os) := by
  have h1 : (10 : UInt8) ∉ joinL 32 ((wdsO o).map (·.data.toList)) := joinL_no 32 (by decide) _ (fun w hw => by
    obtain ⟨x, hx, rfl⟩ := List.mem_map.1 hw
    exact (ho.1 x hx).2)
  have h2 : RdL ⟨(joinL 32 ((wdsO o).map (·.data.toList))).toArray⟩ o := rdL_of (fun w hw => (ho.1 w hw).1) ho.2
  rw [lnB_join] at hs
  generalize joinL 32 ((wdsO o).map (·.data.toList)) = J at *
  have h3 : s.data.toList = J ++ 10 :: (⟨(osT os).toArray⟩ : ByteArray).data.toList := by rw [hs, dl]; simp
  exact rdAll_cons h1 h3 h2 ih
theorem rdAll_osT (os : List Opn) (h : ∀ o, o ∈ os → Rdy o) : ∀ s : ByteArray, s.data.toList = osT os → RdAll s os := by
  induction os with
  | nil => exact fun s hs => rdAll_osT_nil s hs
  | cons o os ih => exact fun s hs => rdAll_osT_cons (h o (by simp)) hs (ih (fun x hx => h x (List.mem_cons_of_mem _ hx)) _ (dl _))
end Go.Proofs.YthkkdepppjiaeaaGreatDoor

/- A text is read as one list of openings alone. -/
namespace Go.Proofs.YthkkdepppjiaeaaGreatDoor

theorem part_one {c : UInt8} : ∀ {a a' b b' : List UInt8}, c ∉ a → c ∉ a' → a ++ c :: b = a' ++ c :: b' → a = a' ∧ b = b'
  | [], [], b, b', _, _, h => ⟨rfl, by simpa using h⟩
  | [], x :: a', b, b', _, h', h => by
    simp only [List.nil_append, List.cons_append, List.cons.injEq] at h
    exact absurd (by rw [← h.1]; simp) h'
  | x :: a, [], b, b', h', _, h => by
    simp only [List.nil_append, List.cons_append, List.cons.injEq] at h
    exact absurd (by rw [h.1]; simp) h'
  | x :: a, y :: a', b, b', h1, h2, h => by
    simp only [List.cons_append, List.cons.injEq] at h
    obtain ⟨e1, e2⟩ := part_one (fun k => h1 (List.mem_cons_of_mem _ k)) (fun k => h2 (List.mem_cons_of_mem _ k)) h.2
    exact ⟨by rw [h.1, e1], e2⟩
theorem itoa_one {j k : Int} (j0 : 0 ≤ j) (j1 : j ≤ 9999) (k0 : 0 ≤ k) (k1 : k ≤ 9999) (h : (⟨(Lib.itoa j).toArray⟩ : ByteArray) = ⟨(Lib.itoa k).toArray⟩) : j = k := by
  have h2 : Lib.itoa j = Lib.itoa k := congrArg (fun s : ByteArray => s.data.toList) h
  have h3 := atoi_itoa j0 j1
  rw [h2, atoi_itoa k0 k1] at h3
  simpa using h3.symm
theorem kwB_one {j k : Int} (j0 : 1 ≤ j) (j1 : j ≤ 3) (k0 : 1 ≤ k) (k1 : k ≤ 3) (h : kwB j = kwB k) : j = k := by
  obtain rfl | rfl | rfl : j = 1 ∨ j = 2 ∨ j = 3 := by omega
  all_goals
    obtain rfl | rfl | rfl : k = 1 ∨ k = 2 ∨ k = 3 := by omega
    all_goals first
      | rfl
      | (exfalso; revert h; simp [kwB])
theorem rdL_one {s : ByteArray} {o p : Opn} (h : RdL s o) (k : RdL s p) : o = p := by
  obtain ⟨h0, i0, i1, f0, f1, d0, d1, k0, k1⟩ := h
  obtain ⟨g0, p0, p1, q0, q1, r0, r1, s0, s1⟩ := k
  rw [h0] at g0
  unfold wdsO at g0
  simp only [List.cons.injEq, and_true, true_and] at g0
  obtain ⟨e1, e2, e3, e4, e5, e6, e7⟩ := g0
  have a1 := itoa_one i0 i1 p0 p1 e1
  have a2 := itoa_one f0 f1 q0 q1 e2
  have a3 := itoa_one d0 d1 r0 r1 e3
  have a4 := kwB_one k0 k1 s0 s1 e4
  obtain ⟨oi, of, od, ok, x, y, z⟩ := o
  obtain ⟨pi, pf, pd, pk, x', y', z'⟩ := p
  simp only at a1 a2 a3 a4 e5 e6 e7
  rw [a1, a2, a3, a4, e5, e6, e7]
theorem rdAll_one : ∀ {os ps : List Opn} {s : ByteArray}, RdAll s os → RdAll s ps → os = ps
  | [], ps, s, h, k => by
    rcases rdAll_parts h with ⟨h0, _⟩ | ⟨_, _, _, _, h0, _⟩
    · rcases rdAll_parts k with ⟨_, k0⟩ | ⟨a, t, _, _, _, _, k2, _⟩
      · exact k0.symm
      · have : s.data.toList.length = 0 := h0
        rw [k2, List.length_append, List.length_cons] at this
        omega
    · cases h0
  | o :: os, ps, s, h, k => by
    rcases rdAll_parts h with ⟨_, h0⟩ | ⟨a, t, o', os', h0, h1, h2, h3, h4⟩
    · cases h0
    · simp only [List.cons.injEq] at h0
      obtain ⟨rfl, rfl⟩ := h0
      rcases rdAll_parts k with ⟨k0, _⟩ | ⟨a', t', p, ps', k0, k1, k2, k3, k4⟩
      · have : s.data.toList.length = 0 := k0
        rw [h2, List.length_append, List.length_cons] at this
        omega
      · subst k0
        rw [h2] at k2
        obtain ⟨e1, e2⟩ := part_one h1 k1 k2
        have et : t = t' := by
          obtain ⟨⟨t⟩⟩ := t
          obtain ⟨⟨t'⟩⟩ := t'
          simp only at e2
          rw [e2]
        subst e1 et
        rw [rdL_one h3 k3, rdAll_one h4 k4]
/-- Bytes of which none is a blank or a line's end. -/
def Solid (l : List UInt8) : Prop := (32 : UInt8) ∉ l ∧ (10 : UInt8) ∉ l
theorem solid_of {l : List UInt8} (h : ∀ b, b ∈ l → 45 ≤ b.toNat) : Solid l := ⟨fun k => absurd (h _ k) (by decide), fun k => absurd (h _ k) (by decide)⟩
theorem dig_big (n : Nat) : ∀ b, b ∈ Lib.decDigits n → 45 ≤ b.toNat := fun b hb => Nat.le_trans (by decide) (decDigits_dig n b hb).1
theorem iS_big (z : Int) : ∀ b, b ∈ (iS z).data.toList → 45 ≤ b.toNat := by
  rw [iS_list]
  split
  · intro b hb
    rcases List.mem_cons.1 hb with rfl | hb
    · decide
    · exact dig_big _ b hb
  · exact dig_big _
theorem rs_big (x : Rat) : ∀ b, b ∈ (rs x).data.toList → 45 ≤ b.toNat := by
  rw [rs_list]
  split
  · exact iS_big _
  · intro b hb
    rcases List.mem_append.1 hb with hb | hb
    · exact iS_big _ b hb
    · rcases List.mem_cons.1 hb with rfl | hb
      · decide
      · exact dig_big _ b hb
theorem rv_solid {s : ByteArray} (h : rvB s = true) : Solid s.data.toList := by
  obtain ⟨x, rfl⟩ := (rvB_iff s).1 h
  exact solid_of (rs_big x)
theorem itoa_solid {k : Int} (h : 0 ≤ k) : Solid (⟨(Lib.itoa k).toArray⟩ : ByteArray).data.toList := by
  rw [dl, itoa_nat h]
  exact solid_of (dig_big _)
theorem kwB_solid (k : Int) : Solid (kwB k).data.toList := by
  unfold kwB
  split
  · exact ⟨by decide, by decide⟩
  · split
    · exact ⟨by decide, by decide⟩
    · exact ⟨by decide, by decide⟩
theorem opC_good {S : Nat → Opn} {i : Nat} (h : opC S i = 0) : RngO (S i).id (S i).frm (S i).dst (S i).kind ∧ vvB (S i).pt = true := by
  unfold opC at h
  by_cases h1 : RngO (S i).id (S i).frm (S i).dst (S i).kind
  · refine ⟨h1, ?_⟩
    rw [if_neg (fun k => k h1)] at h
    split at h
    · exact absurd h (by decide)
    · split at h
      · exact absurd h (by decide)
      · split at h
        · assumption
        · exact absurd h (by decide)
  · rw [if_pos h1] at h
    exact absurd h (by decide)
theorem rdy_of {S : Nat → Opn} {i : Nat} (h : opC S i = 0) : Rdy (S i) := by
  obtain ⟨hr, hv⟩ := opC_good h
  obtain ⟨a1, a2, b1, b2, c1, c2, d1, d2⟩ := hr
  unfold vvB at hv
  simp only [Bool.and_eq_true] at hv
  obtain ⟨⟨v1, v2⟩, v3⟩ := hv
  have w1 := itoa_solid (k := (S i).id) (by omega)
  have w2 := itoa_solid b1
  have w3 := itoa_solid c1
  have w4 := kwB_solid (S i).kind
  have w5 := rv_solid v1
  have w6 := rv_solid v2
  have w7 := rv_solid v3
  refine ⟨fun w hw => ?_, by omega, a2, b1, b2, c1, c2, d1, d2⟩
  unfold wdsO at hw
  simp only [List.mem_cons, List.mem_nil_iff, or_false] at hw
  rcases hw with rfl | rfl | rfl | rfl | rfl | rfl | rfl | rfl | rfl | rfl | rfl
  · exact ⟨by decide, by decide⟩
  · exact w1
  · exact ⟨by decide, by decide⟩
  · exact w2
  · exact ⟨by decide, by decide⟩
  · exact w3
  · exact w4
  · exact ⟨by decide, by decide⟩
  · exact w5
  · exact w6
  · exact w7
/-- Openings that pass the check, printed: read again, they are those. -/
theorem print_read {S : Nat → Opn} {n : Nat} (h : ∀ i, i < n → opC S i = 0) {os : List Opn} (hr : RdAll ⟨(prT S n).toArray⟩ os) : os = (List.range n).map S :=
  rdAll_one hr (rdAll_osT _ (fun o ho => by
    obtain ⟨i, hi, rfl⟩ := List.mem_map.1 ho
    exact rdy_of (h i (List.mem_range.1 hi))) _ (by rw [dl, prT_osT]))
theorem print_reads {S : Nat → Opn} {n : Nat} (h : ∀ i, i < n → opC S i = 0) : RdAll ⟨(prT S n).toArray⟩ ((List.range n).map S) :=
  rdAll_osT _ (fun o ho => by
    obtain ⟨i, hi, rfl⟩ := List.mem_map.1 ho
    exact rdy_of (h i (List.mem_range.1 hi))) _ (by rw [dl, prT_osT])
theorem osAt_range (S : Nat → Opn) {n i : Nat} (h : i < n) : osAt ((List.range n).map S) i = S i := by
  unfold osAt
  rw [List.getElem?_map, List.getElem?_range h]
  rfl
theorem osAt_list (os : List Opn) : (List.range os.length).map (osAt os) = os := by
  apply List.ext_getElem?
  intro i
  by_cases h : i < os.length
  · rw [List.getElem?_map, List.getElem?_range h, List.getElem?_eq_getElem h]
    simp [osAt, h]
  · rw [List.getElem?_eq_none (by simpa using Nat.le_of_not_lt h), List.getElem?_eq_none (Nat.le_of_not_lt h)]
/-- A text that was read is what its openings print. -/
theorem read_print {s : ByteArray} {os : List Opn} (h : RdAll s os) : (⟨(prT (osAt os) os.length).toArray⟩ : ByteArray) = s := by
  have h1 := rdAll_text h
  rw [prT_osT, osAt_list, ← h1]
end Go.Proofs.YthkkdepppjiaeaaGreatDoor

/- slices.Equal at two lists of the same openings. -/
namespace Go.Proofs.YthkkdepppjiaeaaGreatDoor
open Go.RowKit Go.Shelf Go.Sort

attribute [local go_sem] Oper.semAt_some

set_option maxRecDepth 100000 in
set_option maxHeartbeats 4000000 in
theorem sl_EqualO (A B : Option Addr) (a oa c b ob d n : Nat) (S : Nat → Opn) (w : World) (hn : n ≤ 100000) (hA : 0 < n → A = some ⟨a, oa, none⟩) (hB : 0 < n → B = some ⟨b, ob, none⟩) (hS : OpsAt w a oa n S) (hT : OpsAt w b ob n S) :
    Calls Tryz.prog 47 #[.slice A n c, .slice B n d] w fun e w' => e = .returned (.bool true) ∧ Below w.heap.size w w' := by
  have HS := Lib.hid hS
  have HT := Lib.hid hT
  have HA := Lib.hid hA
  have HB := Lib.hid hB
  clear hS hT hA hB
  go_enter Tryz.func47, Tryz.ntmps47
  go_wp2_with fail
  go_loopw [13] (fun x wr => ∃ k : Nat, k ≤ n ∧ x = .int .i64 k ∧ Below w.heap.size w wr) (fun x _ => n - (intOf x).toNat)
  case atStart => exact ⟨0, Nat.zero_le _, rfl, Below.refl _ _⟩
  case round =>
    obtain ⟨k, hk, rfl, hw⟩ := hrel
    by_cases hlt : k < n
    · obtain ⟨s0, s1, s2, s3, s4, s5, s6⟩ := HS.out.below hw k hlt
      obtain ⟨t0, t1, t2, t3, t4, t5, t6⟩ := HT.out.below hw k hlt
      have ea := HA.out (by omega)
      have eb := HB.out (by omega)
      subst ea eb
      clear HA HB
      have hki : (k : Int) < (n : Int) := by omega
      have hki2 : (n : Int) ≤ 100000 := by omega
      generalize S k = o at *
      obtain ⟨i0, i1, i2, i3, p0, p1, p2⟩ := o
      dsimp only at s0 s1 s2 s3 s4 s5 s6 t0 t1 t2 t3 t4 t5 t6
      go_upto_region 6 with fail
      go_quiet (fail)
      clear s0 s1 s2 s3 s4 s5 s6 t0 t1 t2 t3 t4 t5 t6
      go_wp2_with fail
      go_roundw
      case rel => exact ⟨k + 1, by omega, by go_num, hw.trans ⟨rfl, rfl, rfl, Nat.le_refl _, fun _ _ => rfl⟩⟩
      case measure =>
        simp only [intOf]
        omega
    · obtain rfl : k = n := by omega
      have hki : ¬ (k : Int) < (k : Int) := by omega
      go_wp2_with fail
      go_ret
      exact ⟨rfl, hw⟩
end Go.Proofs.YthkkdepppjiaeaaGreatDoor

/- The law OpeningBack: the walk. -/
namespace Go.Proofs.YthkkdepppjiaeaaGreatDoor
open Go.RowKit Go.Shelf Go.Sort

attribute [local go_sem] Oper.semAt_some

set_option maxRecDepth 100000 in
set_option maxHeartbeats 4000000 in
theorem la31_back_no (A : Option Addr) (n c : Nat) (text : ByteArray) (r : Bool) (w : World) (hE : Env w) (hr : r = true → 1000 < text.size)
    (hF : ∀ W, Below w.heap.size w W → Calls Tryz.prog 28 #[.slice A n c] W fun e w' => e = .returned (.bool r) ∧ Below W.heap.size W w') :
    Calls Tryz.prog 9 #[.slice A n c, .string text] w fun e w' => e = .returned (.bool true) ∧ Below w.heap.size w w' := by
  have HW := Lib.hid (la31_awake w hE)
  have HF := Lib.hid hF
  have HR := Lib.hid hr
  clear hE hF hr
  go_enter Tryz.func9, Tryz.ntmps9
  go_wp2_with fail
  refine HW.out.mono ?_
  rintro e w1 ⟨rfl, hB⟩
  go_wp2_with fail
  refine (HF.out _ hB).mono ?_
  rintro e w2 ⟨rfl, hb⟩
  replace hB := bstep hB hb
  cases r
  · clear HR
    go_wp2_with fail
    go_ret
    exact ⟨rfl, hB⟩
  · have hl : (1000 : Int) < (text.size : Int) := by have := HR.out rfl; omega
    go_wp2_with fail
    go_ret
    exact ⟨rfl, hB⟩

set_option maxRecDepth 100000 in
set_option maxHeartbeats 8000000 in
theorem la31_back_go (A : Option Addr) (n c : Nat) (text T : ByteArray) (pc : Int) (w : World) (hE : Env w) (ht : text.size ≤ 1000)
    (hF : ∀ W, Below w.heap.size w W → Calls Tryz.prog 28 #[.slice A n c] W fun e w' => e = .returned (.bool true) ∧ Below W.heap.size W w')
    (hP : ∀ W, Below w.heap.size w W → Calls Tryz.prog 45 #[.slice A n c] W fun e w' => e = .returned (.tuple #[.string T, .int .i64 pc]) ∧ Below W.heap.size W w')
    (hC : (pc = 0 ∧ ∀ W, Below w.heap.size w W → Calls Tryz.prog 46 #[.string T] W fun e w' => ∃ (B : Option Addr) (d : Nat), e = .returned (.tuple #[.slice B n d, .int .i64 (-1), .int .i64 0]) ∧ Below W.heap.size W w' ∧
        Calls Tryz.prog 47 #[.slice B n d, .slice A n c] w' fun e w'' => e = .returned (.bool true) ∧ Below w'.heap.size w' w'') ∨ (pc = 1 ∧ T = ⟨#[]⟩))
    (hQ : ∀ W, Below w.heap.size w W → Calls Tryz.prog 46 #[.string text] W fun e w' => ∃ (B : Option Addr) (m d : Nat) (k q : Int), e = .returned (.tuple #[.slice B m d, .int .i64 k, .int .i64 q]) ∧ Below W.heap.size W w' ∧
        ((q ≠ 0 ∧ m = 0) ∨ (q = 0 ∧ Calls Tryz.prog 45 #[.slice B m d] w' fun e w'' => e = .returned (.tuple #[.string text, .int .i64 0]) ∧ Below w'.heap.size w' w''))) :
    Calls Tryz.prog 9 #[.slice A n c, .string text] w fun e w' => e = .returned (.bool true) ∧ Below w.heap.size w w' := by
  have HW := Lib.hid (la31_awake w hE)
  have HF := Lib.hid hF
  have HP := Lib.hid hP
  have HQ := Lib.hid hQ
  have hl : ¬ (1000 : Int) < (text.size : Int) := by omega
  clear hE hF hP hQ ht
  rcases hC with ⟨rfl, hC⟩ | ⟨rfl, rfl⟩
  · have HC := Lib.hid hC
    clear hC
    go_enter Tryz.func9, Tryz.ntmps9
    go_wp2_with fail
    refine HW.out.mono ?_
    rintro e w1 ⟨rfl, hB⟩
    go_wp2_with fail
    refine (HF.out _ hB).mono ?_
    rintro e w2 ⟨rfl, hb⟩
    replace hB := bstep hB hb
    clear hb
    go_wp2_with fail
    refine (HP.out _ hB).mono ?_
    rintro e w3 ⟨rfl, hb⟩
    replace hB := bstep hB hb
    clear hb
    go_wp2_with fail
    refine (HC.out _ hB).mono ?_
    rintro e w4 ⟨B, d, rfl, hb, hq⟩
    replace hB := bstep hB hb
    have HEQ := Lib.hid hq
    clear hb hq
    go_wp2_with fail
    refine HEQ.out.mono ?_
    rintro e w5 ⟨rfl, hb⟩
    replace hB := bstep hB hb
    clear hb
    go_wp2_with fail
    refine (HQ.out _ hB).mono ?_
    rintro e w6 ⟨B', m, d', k, q, rfl, hb, hq⟩
    replace hB := bstep hB hb
    clear hb
    rcases hq with ⟨hq, rfl⟩ | ⟨rfl, hq⟩
    · have hqb : (q != 0) = true := by rw [bne_iff_ne]; exact hq
      go_wp2_with fail
      go_ret
      exact ⟨rfl, hB⟩
    · have HT := Lib.hid hq
      clear hq
      go_wp2_with fail
      refine HT.out.mono ?_
      rintro e w7 ⟨rfl, hb⟩
      replace hB := bstep hB hb
      go_wp2_with fail
      go_ret
      exact ⟨rfl, hB⟩
  · go_enter Tryz.func9, Tryz.ntmps9
    go_wp2_with fail
    refine HW.out.mono ?_
    rintro e w1 ⟨rfl, hB⟩
    go_wp2_with fail
    refine (HF.out _ hB).mono ?_
    rintro e w2 ⟨rfl, hb⟩
    replace hB := bstep hB hb
    clear hb
    go_wp2_with fail
    refine (HP.out _ hB).mono ?_
    rintro e w3 ⟨rfl, hb⟩
    replace hB := bstep hB hb
    clear hb
    go_wp2_with fail
    refine (HQ.out _ hB).mono ?_
    rintro e w6 ⟨B', m, d', k, q, rfl, hb, hq⟩
    replace hB := bstep hB hb
    clear hb
    rcases hq with ⟨hq, rfl⟩ | ⟨rfl, hq⟩
    · have hqb : (q != 0) = true := by rw [bne_iff_ne]; exact hq
      go_wp2_with fail
      go_ret
      exact ⟨rfl, hB⟩
    · have HT := Lib.hid hq
      clear hq
      go_wp2_with fail
      refine HT.out.mono ?_
      rintro e w7 ⟨rfl, hb⟩
      replace hB := bstep hB hb
      go_wp2_with fail
      go_ret
      exact ⟨rfl, hB⟩
end Go.Proofs.YthkkdepppjiaeaaGreatDoor

/- The law OpeningBack, joined. -/
namespace Go.Proofs.YthkkdepppjiaeaaGreatDoor
open Go.RowKit Go.Shelf

theorem itoa_short {k : Int} (h : 0 ≤ k) (h2 : k ≤ 9999) : (⟨(Lib.itoa k).toArray⟩ : ByteArray).size ≤ 4 := by
  have e : (⟨(Lib.itoa k).toArray⟩ : ByteArray).size = (Lib.itoa k).length := by show (Lib.itoa k).toArray.size = _; simp
  rw [e, itoa_nat h]
  exact (decDigits_len (u := k.toNat) (k := 4) (by decide)).2 (by omega)
theorem kwB_short (k : Int) : (kwB k).size ≤ 12 := by
  unfold kwB
  split
  · decide
  · split
    · decide
    · decide
theorem lnB_short {o : Opn} (h : S40 o.pt) (hr : RngO o.id o.frm o.dst o.kind) : (lnB o).size ≤ 200 := by
  obtain ⟨a1, a2, b1, b2, c1, c2, _, _⟩ := hr
  have w1 := itoa_short (k := o.id) (by omega) a2
  have w2 := itoa_short b1 b2
  have w3 := itoa_short c1 c2
  have w4 := kwB_short o.kind
  obtain ⟨p1, p2, p3⟩ := h
  unfold lnB
  simp only [ByteArray.size_append]
  generalize (⟨(Lib.itoa o.id).toArray⟩ : ByteArray).size = x1 at *
  generalize (⟨(Lib.itoa o.frm).toArray⟩ : ByteArray).size = x2 at *
  generalize (⟨(Lib.itoa o.dst).toArray⟩ : ByteArray).size = x3 at *
  generalize (kwB o.kind).size = x4 at *
  have l1 : (⟨#[111, 112, 101, 110, 105, 110, 103, 32]⟩ : ByteArray).size = 8 := rfl
  have l2 : (⟨#[32, 102, 114, 111, 109, 32]⟩ : ByteArray).size = 6 := rfl
  have l3 : (⟨#[32, 116, 111, 32]⟩ : ByteArray).size = 4 := rfl
  have l4 : (⟨#[32]⟩ : ByteArray).size = 1 := rfl
  have l5 : (⟨#[32, 97, 116, 32]⟩ : ByteArray).size = 4 := rfl
  have l6 : (⟨#[10]⟩ : ByteArray).size = 1 := rfl
  rw [l1, l2, l3, l4, l5, l6]
  omega
theorem rdAll_short {s : ByteArray} {os : List Opn} (h : RdAll s os) (hs : s.size ≤ 65536) : (∀ i, i < os.length → ShV (osAt os i).pt) ∧ ∀ i, i < os.length → (lnB (osAt os i)).size ≤ 1000000000 := by
  obtain ⟨k, _, _, h3⟩ := h
  refine ⟨par_short h3 hs, fun i hi => ?_⟩
  have hk := hi
  rw [h3.len, upto_len] at hk
  have h1 := rdL_line (h3.get i _ (upto_get (lnAt s) k i hk)).2
  have h2 : (lnAt s i).1.size ≤ s.size := Nat.le_trans (lnCut_le (lnRest s i)).1 (lnRest_le s i)
  have h4 := congrArg List.length h1
  rw [List.length_append] at h4
  have e1 : (lnB (osAt os i)).data.toList.length = (lnB (osAt os i)).size := Array.length_toList
  have e2 : (lnAt s i).1.data.toList.length = (lnAt s i).1.size := Array.length_toList
  rw [e1, e2] at h4
  have e3 : ([10] : List UInt8).length = 1 := rfl
  omega
/-- Print at openings that pass the check. -/
theorem print_good (A : Option Addr) (b off n c : Nat) (S : Nat → Opn) (w : World) (hE : Env w) (hn : n ≤ 64) (hA : 0 < n → A = some ⟨b, off, none⟩) (hS : OpsAt w b off n S) (hs : ∀ i, i < n → ShV (S i).pt) (hok : ∀ i, i < n → opC S i = 0) (hl : ∀ i, i < n → (lnB (S i)).size ≤ 1000000000) :
    Calls Tryz.prog 45 #[.slice A n c] w fun e w' => e = .returned (.tuple #[.string ⟨(prT S n).toArray⟩, .int .i64 0]) ∧ Below w.heap.size w w' :=
  op_Print_ok A b off n c S w hE hn hA hS hok hl (fun W hb => op_Check A b off n c S (-1) 0 W (hE.below hb) hn hA (hS.below hb) hs (fun _ => ⟨rfl, rfl⟩) (fun i hi _ hne => absurd (hok i hi) hne))
theorem la_op_back (A : Option Addr) (n c : Nat) (S : Nat → Opn) (text : ByteArray) (w : World) (hE : EnvB w) (_ : A = none → n = 0) (hS : OpsIn w A n S) (hn : n ≤ 9223372036854775807) (hM : ∀ i, i < n → Mx (S i).pt) :
    Calls Tryz.prog 9 #[.slice A n c, .string text] w fun e w' => e = .returned (.bool true) ∧ Below w.heap.size w w' := by
  obtain ⟨b, off, hA, hS⟩ := opsIn_at hS
  obtain ⟨r, hr, h0, h1, h2⟩ := few_dec S n
  have hF := fun W (hb : Below w.heap.size w W) => r31_Few A b off n c S r W hn hA (hS.below hb) hM h0 h1 h2
  cases r with
  | false => exact la31_back_no A n c text false w hE.env (fun h => absurd h (by decide)) hF
  | true =>
    by_cases hl : text.size ≤ 1000
    · have h40 := (hr.1 rfl).2
      have hQ : ∀ W, Below w.heap.size w W → Calls Tryz.prog 46 #[.string text] W fun e w' => ∃ (B : Option Addr) (m d : Nat) (k q : Int), e = .returned (.tuple #[.slice B m d, .int .i64 k, .int .i64 q]) ∧ Below W.heap.size W w' ∧
          ((q ≠ 0 ∧ m = 0) ∨ (q = 0 ∧ Calls Tryz.prog 45 #[.slice B m d] w' fun e w'' => e = .returned (.tuple #[.string text, .int .i64 0]) ∧ Below w'.heap.size w' w'')) := fun W hb => by
        refine (op_Parse text W (hE.below hb) (by omega)).mono ?_
        rintro e w' (⟨k, rfl, _, hb'⟩ | ⟨os, B, b', d, hR, hB, hO, hb', (⟨⟨g1, g2⟩, rfl⟩ | ⟨_, rfl⟩)⟩)
        · exact ⟨none, 0, 0, k, 3, rfl, hb', .inl ⟨by decide, rfl⟩⟩
        · obtain ⟨j1, j2⟩ := rdAll_short hR (by omega)
          have hp := print_good B b' 0 os.length d (osAt os) w' ((hE.below hb).below hb').env g1 hB hO j1 g2 j2
          rw [read_print hR] at hp
          exact ⟨B, os.length, d, -1, 0, rfl, hb', .inr ⟨rfl, hp⟩⟩
        · exact ⟨none, 0, 0, -1, 1, rfl, hb', .inl ⟨by decide, rfl⟩⟩
      by_cases hok : n ≤ 64 ∧ ∀ i, i < n → opC S i = 0
      · have hln : ∀ i, i < n → (lnB (S i)).size ≤ 200 := fun i hi => lnB_short (h40 i hi) (opC_good (hok.2 i hi)).1
        have hsz : (⟨(prT S n).toArray⟩ : ByteArray).size ≤ 65536 := by
          have e : (⟨(prT S n).toArray⟩ : ByteArray).size = (prT S n).length := by show (prT S n).toArray.size = _; simp
          have := prT_len hln
          rw [e]
          have := hok.1
          omega
        refine la31_back_go A n c text ⟨(prT S n).toArray⟩ 0 w hE.env hl hF (fun W hb => print_good A b off n c S W (hE.below hb).env hok.1 hA (hS.below hb) (fun i hi => (h40 i hi).shV) hok.2 (fun i hi => Nat.le_trans (hln i hi) (by decide))) (.inl ⟨rfl, fun W hb => ?_⟩) hQ
        refine (op_Parse _ W (hE.below hb) hsz).mono ?_
        rintro e w' (⟨k, rfl, hno, hb'⟩ | ⟨os, B, b', d, hR, hB, hO, hb', hres⟩)
        · exact absurd (print_reads hok.2) (hno _)
        · have hos := print_read hok.2 hR
          have hlen : os.length = n := by rw [hos]; simp
          have hat : ∀ i, i < n → osAt os i = S i := fun i hi => by rw [hos]; exact osAt_range S hi
          rw [hlen] at hB hO hres
          have hO' : OpsAt w' b' 0 n S := fun i hi => by rw [← hat i hi]; exact hO i hi
          have hgood : n ≤ 64 ∧ ∀ i, i < n → opC (osAt os) i = 0 := ⟨hok.1, fun i hi => by
            have := hok.2 i hi
            unfold opC at this ⊢
            rw [hat i hi, hat (i - 1) (by omega)]
            exact this⟩
          rcases hres with ⟨_, rfl⟩ | ⟨hno, _⟩
          · exact ⟨B, d, rfl, hb', sl_EqualO B A b' 0 d b off c n S w' (by have := hok.1; omega) hB hA hO' ((hS.below hb).below hb')⟩
          · exact absurd hgood hno
      · obtain ⟨ri, rc, hrc, hc⟩ := both_checks A b off n c S w hA hS h40 hE.env
        refine la31_back_go A n c text ⟨#[]⟩ 1 w hE.env hl hF (fun W hb => op_Print_bad A n c ri rc W (by rw [bne_iff_ne]; exact fun e => hok (hrc.1 e)) (fun W' hb' => hc.1 W' (bstep hb hb'))) (.inr ⟨rfl, rfl⟩) hQ
    · exact la31_back_no A n c text true w hE.env (fun _ => by omega) hF
end Go.Proofs.YthkkdepppjiaeaaGreatDoor
