/- The reference of layer 16: Start. -/
import Derived.Test.YthkkdepppjiaeaaGreatDoorRjTri
import Derived.Test.YthkkdepppjiaeaaGreatDoorRaFrameOf
import Derived.Test.YthkkdepppjiaeaaGreatDoorRdRange
namespace Go.Proofs.YthkkdepppjiaeaaGreatDoor
open Go.RowKit Go.Shelf Go.Sort

attribute [local go_sem] Oper.semAt_some
attribute [local go_sem ↓ high] storeAt_fr loadAt_fr
attribute [local go_sem high] run_storeAt_fr run_storeAt_frN

theorem res_ctt {P : Program} {w : World} {fn : Func} {tmps : Array Value} {fr : Nat × Nat} {t : TypeId} {p u v : Tmp} {ty : TypeId} {g : Nat} {cs : Array Value} {n : Nat} (h : fn.results = #[.cell p ty, .tmp u, .tmp v]) (hT : RowTy P ty n) (hp : tmps.getD p undef = .pointer (some ⟨g, 0, none⟩)) (hg : w.heap[g]? = some (.cells cs t fr)) (hn : cs.size = n) :
    (results fn tmps).run P w = .ok (.tuple #[.agg cs, tmps.getD u undef, tmps.getD v undef]) w := by
  have hp' : tmps[p]?.getD undef = .pointer (some ⟨g, 0, none⟩) := by simpa using hp
  simp [results, h, hp', asAddr, hT w g t cs fr hg hn]
theorem setCells_at (g : Nat) (t : TypeId) : ∀ (vs : List Value) (o : Nat) (w : World) (cur : Array Value), w.heap[g]? = some (.cells cur t (0, 0)) → o + vs.length ≤ cur.size →
    ∃ cur', (w.setCells g o vs).heap[g]? = some (.cells cur' t (0, 0)) ∧ cur'.size = cur.size ∧ (∀ j, j < o ∨ o + vs.length ≤ j → cur'[j]? = cur[j]?) ∧ ∀ j, j < vs.length → cur'[o + j]? = vs[j]?
  | [], o, w, cur, h, _ => ⟨cur, h, rfl, fun _ _ => rfl, fun j hj => absurd hj (by simp)⟩
  | v :: r, o, w, cur, h, hl => by
    have h1 := heap_setCell_same w g o _ _ v h
    have hl' : o + 1 + r.length ≤ (cur.setIfInBounds o v).size := by
      rw [Array.size_setIfInBounds]
      simp at hl
      omega
    obtain ⟨cur', k1, k2, k3, k4⟩ := setCells_at g t r (o + 1) (w.setCell ⟨g, o, none⟩ v) (cur.setIfInBounds o v) h1 hl'
    refine ⟨cur', k1, by rw [k2, Array.size_setIfInBounds], fun j hj => ?_, fun j hj => ?_⟩
    · rw [k3 j (by simp at hj; omega), Array.getElem?_setIfInBounds_ne (by simp at hj; omega)]
    · cases j with
      | zero =>
        rw [Nat.add_zero, k3 o (by omega)]
        simp at hl
        rw [Array.getElem?_setIfInBounds_self_of_lt (by omega)]
        rfl
      | succ j =>
        rw [show o + (j + 1) = o + 1 + j by omega, k4 j (by simpa using hj)]
        rfl
theorem RN.setCellsG {w : World} {s : Sl} {n g : Nat} {x : Bool} (h : RN w s n) (hg : w.cell? ⟨g, 0, none⟩ = some (.bool x)) (o : Nat) (vs : List Value) : RN (w.setCells g o vs) s n := by
  obtain ⟨A, c, e, h1, h2, h3⟩ := h
  refine ⟨A, c, e, h1, h2, ?_⟩
  rcases h3 with h3 | ⟨b, rfl, h3⟩
  · exact .inl h3
  · by_cases hl : 0 < (ws n).length
    · refine .inr ⟨b, rfl, fun j hj => ?_⟩
      have h0 := h3 0 hl
      have hne : b ≠ g := by
        rintro rfl
        rw [hg] at h0
        injection h0 with h0
        cases h0
      exact (World.cell?_of_block (w := w) (setCells_other hne vs o w)).trans (h3 j hj)
    · exact .inl (List.eq_nil_of_length_eq_zero (by omega))
theorem RV.setCellsG {w : World} {s : VS} {a : V3} {g : Nat} {x : Bool} (h : RV w s a) (hg : w.cell? ⟨g, 0, none⟩ = some (.bool x)) (o : Nat) (vs : List Value) : RV (w.setCells g o vs) s a :=
  ⟨⟨h.x.num.setCellsG hg o vs, h.x.den.setCellsG hg o vs⟩, ⟨h.y.num.setCellsG hg o vs, h.y.den.setCellsG hg o vs⟩, ⟨h.z.num.setCellsG hg o vs, h.z.den.setCellsG hg o vs⟩⟩
/-- The row of n triangles: 3 n vectors of fractions, one behind the other. -/
def LAt (W : World) (g cap n : Nat) (F : Nat → V3) (U : Nat → VS) : Prop := ∃ cur, W.heap[g]? = some (.cells cur 192 (0, 0)) ∧ cur.size = cap * 27 ∧ n ≤ cap ∧ ∀ v, v < n * 3 → ∀ r, r < 9 → cur[v * 9 + r]? = (vcl (F v) (U v))[r]?
theorem LAt.below {W W' : World} {g cap n : Nat} {F : Nat → V3} {U : Nat → VS} (h : LAt W g cap n F U) (hb : Below W.heap.size W W') : LAt W' g cap n F U := by
  obtain ⟨cur, h1, h2⟩ := h
  exact ⟨cur, keep hb h1, h2⟩
theorem LAt.cell {W : World} {g cap n : Nat} {F : Nat → V3} {U : Nat → VS} (h : LAt W g cap n F U) {v r : Nat} (hv : v < n * 3) (hr : r < 9) : W.cell? ⟨g, v * 9 + r, none⟩ = (vcl (F v) (U v))[r]? := by
  obtain ⟨cur, h1, h2, h3, h4⟩ := h
  exact (cell_of_row W g _ _ _ _ h1).trans (h4 v hv r hr)
theorem LAt.there {W : World} {g cap n : Nat} {F : Nat → V3} {U : Nat → VS} (h : LAt W g cap n F U) {v : Nat} (hv : v < n * 3) : W.there g (v * 9) 9 := by
  intro j hj
  refine ⟨by rw [h.cell hv hj]; exact (by match j, hj with | 0, _ => rfl | 1, _ => rfl | 2, _ => rfl | 3, _ => rfl | 4, _ => rfl | 5, _ => rfl | 6, _ => rfl | 7, _ => rfl | 8, _ => rfl), ?_⟩
  obtain ⟨cur, h1, _⟩ := h
  exact frozen_of_row W g _ _ _ h1
theorem LAt.set {W : World} {g cap n m : Nat} {F : Nat → V3} {U : Nat → VS} (h : LAt W g cap n F U) (hm : m < n * 3) (x : V3) (u : VS) : LAt (W.setCells g (m * 9) (vcl x u)) g cap n (fun v => if v = m then x else F v) (fun v => if v = m then u else U v) := by
  obtain ⟨cur, h1, h2, h3, h4⟩ := h
  have hl : (vcl x u).length = 9 := rfl
  obtain ⟨cur', k1, k2, k3, k4⟩ := setCells_at g _ (vcl x u) (m * 9) W cur h1 (by rw [hl, h2]; omega)
  refine ⟨cur', k1, by rw [k2, h2], h3, fun v hv r hr => ?_⟩
  by_cases e : v = m
  · subst e
    simp only [if_true]
    exact k4 r (by rw [hl]; exact hr)
  · simp only [if_neg e]
    rw [k3 (v * 9 + r) (by rw [hl]; omega)]
    exact h4 v hv r hr
theorem LAt.congr {W : World} {g cap n : Nat} {F F' : Nat → V3} {U : Nat → VS} (h : LAt W g cap n F U) (he : ∀ v, v < n * 3 → F v = F' v) : LAt W g cap n F' U := by
  obtain ⟨cur, h1, h2, h3, h4⟩ := h
  exact ⟨cur, h1, h2, h3, fun v hv r hr => by rw [← he v hv]; exact h4 v hv r hr⟩
theorem LAt.other {W : World} {g cap n k : Nat} {F : Nat → V3} {U : Nat → VS} (h : LAt W g cap n F U) (hk : g ≠ k) (o : Nat) (vs : List Value) : LAt (W.setCells k o vs) g cap n F U := by
  obtain ⟨cur, h1, h2⟩ := h
  exact ⟨cur, (setCells_other hk vs o W).trans h1, h2⟩
theorem lat_of_owns {W : World} {base n : Nat} {v : Value} {V : Nat → V3} {U : Nat → VS} (hn : 1 ≤ n) (h : W.ownsRow base 192 27 v n (vtl V U (n * 3))) : ∃ g cap, v = .slice (some ⟨g, 0, none⟩) n cap ∧ base ≤ g ∧ n ≤ cap ∧ LAt W g cap n V U := by
  obtain ⟨_, h | ⟨g, cap, cur, rfl, hg, h3, h4, h5, h6, h7⟩⟩ := h
  · obtain ⟨_, rfl⟩ := h
    omega
  · refine ⟨g, cap, rfl, hg, h4, cur, h3, h6, h4, fun v hv r hr => ?_⟩
    rw [← vtl_get V U (n * 3) v r hv hr, ← h7, List.getElem?_take_of_lt (by omega), Array.getElem?_toList]


set_option maxRecDepth 100000 in
set_option maxHeartbeats 4000000 in
theorem r16_Start_none (A : Option Addr) (n c : Nat) (h t : ByteArray) (w : World) (hn : n = 0) :
    Calls Tryz.prog 85 #[.slice A n c, .agg #[.string h, .string t]] w fun e w' => e = .returned (.tuple #[.agg #[.bool false, .slice none 0 0, .slice none 0 0, .bool false, .slice none 0 0, .slice none 0 0, .bool false, .slice none 0 0, .slice none 0 0, .bool false, .slice none 0 0, .slice none 0 0, .bool false, .slice none 0 0, .slice none 0 0, .bool false, .slice none 0 0, .slice none 0 0, .bool false, .slice none 0 0, .slice none 0 0, .bool false, .slice none 0 0, .slice none 0 0, .bool false, .slice none 0 0, .slice none 0 0], .slice none 0 0, .int .i64 9]) ∧ Below w.heap.size w w' := by
  subst hn
  go_enter Tryz.func85, Tryz.ntmps85
  go_upto_region 1 with fail
  generalize hW : (World.alloc w _).alloc _ = W
  obtain ⟨hB, hsz, R3, R4⟩ := A2 hW
  have R3 := Lib.hid R3
  have R4 := Lib.hid R4
  clear hW hsz
  have HT : World.there W (w.heap.size + 1) 0 27 := there_row R4.out
  have E2 := setCells_row R4.out ([.bool false, .slice none 0 0, .slice none 0 0, .bool false, .slice none 0 0, .slice none 0 0, .bool false, .slice none 0 0, .slice none 0 0, .bool false, .slice none 0 0, .slice none 0 0, .bool false, .slice none 0 0, .slice none 0 0, .bool false, .slice none 0 0, .slice none 0 0, .bool false, .slice none 0 0, .slice none 0 0, .bool false, .slice none 0 0, .slice none 0 0, .bool false, .slice none 0 0, .slice none 0 0] : List Value) rfl
  have hB2 := setCells_below (show w.heap.size ≤ w.heap.size + 1 by omega) ([.bool false, .slice none 0 0, .slice none 0 0, .bool false, .slice none 0 0, .slice none 0 0, .bool false, .slice none 0 0, .slice none 0 0, .bool false, .slice none 0 0, .slice none 0 0, .bool false, .slice none 0 0, .slice none 0 0, .bool false, .slice none 0 0, .slice none 0 0, .bool false, .slice none 0 0, .slice none 0 0, .bool false, .slice none 0 0, .slice none 0 0, .bool false, .slice none 0 0, .slice none 0 0] : List Value) 0 _ hB
  go_wp2_with fail
  exact bodyPost_ret (res_ctt rfl fr16_row rfl E2 rfl) rfl ⟨rfl, hB2⟩


set_option maxRecDepth 100000 in
set_option maxHeartbeats 4000000 in
theorem r16_Start_long (A : Option Addr) (n c : Nat) (h t : ByteArray) (w : World) (hn : 512 < n) :
    Calls Tryz.prog 85 #[.slice A n c, .agg #[.string h, .string t]] w fun e w' => e = .returned (.tuple #[.agg #[.bool false, .slice none 0 0, .slice none 0 0, .bool false, .slice none 0 0, .slice none 0 0, .bool false, .slice none 0 0, .slice none 0 0, .bool false, .slice none 0 0, .slice none 0 0, .bool false, .slice none 0 0, .slice none 0 0, .bool false, .slice none 0 0, .slice none 0 0, .bool false, .slice none 0 0, .slice none 0 0, .bool false, .slice none 0 0, .slice none 0 0, .bool false, .slice none 0 0, .slice none 0 0], .slice none 0 0, .int .i64 8]) ∧ Below w.heap.size w w' := by
  have hn0 : ((n : Int) == 0) = false := by rw [beq_eq_false_iff_ne]; omega
  have hn5 : decide ((512 : Int) < (n : Int)) = true := by rw [decide_eq_true_iff]; omega
  go_enter Tryz.func85, Tryz.ntmps85
  go_upto_region 1 with fail
  generalize hW : (World.alloc w _).alloc _ = W
  obtain ⟨hB, hsz, R3, R4⟩ := A2 hW
  have R3 := Lib.hid R3
  have R4 := Lib.hid R4
  clear hW hsz
  have HT : World.there W (w.heap.size + 1) 0 27 := there_row R4.out
  have E2 := setCells_row R4.out ([.bool false, .slice none 0 0, .slice none 0 0, .bool false, .slice none 0 0, .slice none 0 0, .bool false, .slice none 0 0, .slice none 0 0, .bool false, .slice none 0 0, .slice none 0 0, .bool false, .slice none 0 0, .slice none 0 0, .bool false, .slice none 0 0, .slice none 0 0, .bool false, .slice none 0 0, .slice none 0 0, .bool false, .slice none 0 0, .slice none 0 0, .bool false, .slice none 0 0, .slice none 0 0] : List Value) rfl
  have hB2 := setCells_below (show w.heap.size ≤ w.heap.size + 1 by omega) ([.bool false, .slice none 0 0, .slice none 0 0, .bool false, .slice none 0 0, .slice none 0 0, .bool false, .slice none 0 0, .slice none 0 0, .bool false, .slice none 0 0, .slice none 0 0, .bool false, .slice none 0 0, .slice none 0 0, .bool false, .slice none 0 0, .slice none 0 0, .bool false, .slice none 0 0, .slice none 0 0, .bool false, .slice none 0 0, .slice none 0 0, .bool false, .slice none 0 0, .slice none 0 0] : List Value) 0 _ hB
  go_wp2_with fail
  exact bodyPost_ret (res_ctt rfl fr16_row rfl E2 rfl) rfl ⟨rfl, hB2⟩


set_option maxRecDepth 100000 in
set_option maxHeartbeats 4000000 in
theorem r16_Start_err (A : Option Addr) (n c : Nat) (h t : ByteArray) (tv : Bool) (cc : Int) (w : World) (hn1 : 1 ≤ n) (hn2 : n ≤ 512) (hc1 : (cc != 0) = true)
    (htri : ∀ W, Below w.heap.size w W → Calls Tryz.prog 127 #[.slice A n c] W fun e w' => (∃ v, e = .returned (.tuple #[v, .bool tv])) ∧ Below W.heap.size W w')
    (hf : ∀ w, Calls Tryz.prog 77 #[.agg #[.string h, .string t]] w fun e w' => e = .returned (.tuple #[.agg #[.bool false, .slice none 0 0, .slice none 0 0, .bool false, .slice none 0 0, .slice none 0 0, .bool false, .slice none 0 0, .slice none 0 0, .bool false, .slice none 0 0, .slice none 0 0, .bool false, .slice none 0 0, .slice none 0 0, .bool false, .slice none 0 0, .slice none 0 0, .bool false, .slice none 0 0, .slice none 0 0, .bool false, .slice none 0 0, .slice none 0 0, .bool false, .slice none 0 0, .slice none 0 0], .int .i64 cc]) ∧ Below w.heap.size w w') :
    Calls Tryz.prog 85 #[.slice A n c, .agg #[.string h, .string t]] w fun e w' => e = .returned (.tuple #[.agg #[.bool false, .slice none 0 0, .slice none 0 0, .bool false, .slice none 0 0, .slice none 0 0, .bool false, .slice none 0 0, .slice none 0 0, .bool false, .slice none 0 0, .slice none 0 0, .bool false, .slice none 0 0, .slice none 0 0, .bool false, .slice none 0 0, .slice none 0 0, .bool false, .slice none 0 0, .slice none 0 0, .bool false, .slice none 0 0, .slice none 0 0, .bool false, .slice none 0 0, .slice none 0 0], .slice none 0 0, .int .i64 (if tv = true then cc else 1)]) ∧ Below w.heap.size w w' := by
  have hn0 : ((n : Int) == 0) = false := by rw [beq_eq_false_iff_ne]; omega
  have hn5 : decide ((512 : Int) < (n : Int)) = false := by rw [decide_eq_false_iff_not]; omega
  have HTRI := Lib.hid htri
  have HF := Lib.hid hf
  clear htri hf
  have hcs : ∃ q, (cc == 1) = q := ⟨_, rfl⟩
  obtain ⟨q, hq⟩ := hcs
  have eq : (if tv = true then cc else 1) = if tv = true then (if q = true then 1 else cc) else 1 := by
    cases tv
    · rfl
    · cases q
      · rfl
      · rw [beq_iff_eq] at hq
        rw [hq]
        rfl
  rw [eq]
  clear eq
  cases tv <;> cases q
  all_goals
    simp only [if_true, Bool.false_eq_true, if_false]
    go_enter Tryz.func85, Tryz.ntmps85
    go_wp2_with fail
    generalize hW : (World.alloc w _).alloc _ = W
    obtain ⟨hB, hsz, R3, R4⟩ := A2 hW
    have R3 := Lib.hid R3
    have R4 := Lib.hid R4
    clear hW hsz
    refine (HTRI.out _ hB).mono ?_
    rintro e w1 ⟨⟨v, rfl⟩, hb⟩
    replace hB := bstep hB hb
    have R3 := Lib.hid (keep hb R3.out)
    have R4 := Lib.hid (keep hb R4.out)
    clear hb
    obtain ⟨c0, c1, f0, f1⟩ := row2 R3.out
    go_wp2_with fail
    clear c0 c1 f0 f1
    refine (HF.out _).mono ?_
    rintro e w2 ⟨rfl, hb⟩
    replace hB := bstep hB hb
    have R4 := Lib.hid (keep hb R4.out)
    clear hb
    go_upto_region 7 with fail
    generalize hW : World.alloc _ _ = V
    obtain ⟨hb, hsz, R9⟩ := A1 hW
    replace hB := bstep hB hb
    have R4 := Lib.hid (keep hb R4.out)
    clear hb
    have R9 := Lib.hid R9
    clear hW hsz
    have HT : World.there V (w.heap.size + 1) 0 27 := there_row R4.out
    have E2 := setCells_row R4.out ([.bool false, .slice none 0 0, .slice none 0 0, .bool false, .slice none 0 0, .slice none 0 0, .bool false, .slice none 0 0, .slice none 0 0, .bool false, .slice none 0 0, .slice none 0 0, .bool false, .slice none 0 0, .slice none 0 0, .bool false, .slice none 0 0, .slice none 0 0, .bool false, .slice none 0 0, .slice none 0 0, .bool false, .slice none 0 0, .slice none 0 0, .bool false, .slice none 0 0, .slice none 0 0] : List Value) rfl
    have hB2 := setCells_below (show w.heap.size ≤ w.heap.size + 1 by omega) ([.bool false, .slice none 0 0, .slice none 0 0, .bool false, .slice none 0 0, .slice none 0 0, .bool false, .slice none 0 0, .slice none 0 0, .bool false, .slice none 0 0, .slice none 0 0, .bool false, .slice none 0 0, .slice none 0 0, .bool false, .slice none 0 0, .slice none 0 0, .bool false, .slice none 0 0, .slice none 0 0, .bool false, .slice none 0 0, .slice none 0 0, .bool false, .slice none 0 0, .slice none 0 0] : List Value) 0 _ hB
    go_wp2_with fail
    exact bodyPost_ret (res_ctt rfl fr16_row rfl E2 rfl) rfl ⟨rfl, hB2⟩
  

set_option maxRecDepth 100000 in
set_option maxHeartbeats 16000000 in
theorem r16_Start_ok (b o n c : Nat) (h t : ByteArray) (b0 b1 b2 b3 b4 b5 b6 b7 b8 : Bool) (A S U3 : V3) (V X : Nat → V3) (w : World) (hn1 : 1 ≤ n) (hn2 : n ≤ 512)
    (htri : ∀ W, Below w.heap.size w W → Calls Tryz.prog 127 #[.slice (some ⟨b, o, none⟩) n c] W fun e w' => (∃ (v : Value) (U : Nat → VS), e = .returned (.tuple #[v, .bool true]) ∧ w'.ownsRow W.heap.size 192 27 v n (vtl V U (n * 3)) ∧ ∀ j, j < n * 3 → RV w' (U j) (V j)) ∧ Below W.heap.size W w')
    (hf : ∀ w, Calls Tryz.prog 77 #[.agg #[.string h, .string t]] w fun e w' => ∃ fA fS fU : VS, e = .returned (.tuple #[.agg #[.bool b0, .slice fA.x.p.A fA.x.p.n fA.x.p.c, .slice fA.x.d.A fA.x.d.n fA.x.d.c, .bool b1, .slice fA.y.p.A fA.y.p.n fA.y.p.c, .slice fA.y.d.A fA.y.d.n fA.y.d.c, .bool b2, .slice fA.z.p.A fA.z.p.n fA.z.p.c, .slice fA.z.d.A fA.z.d.n fA.z.d.c, .bool b3, .slice fS.x.p.A fS.x.p.n fS.x.p.c, .slice fS.x.d.A fS.x.d.n fS.x.d.c, .bool b4, .slice fS.y.p.A fS.y.p.n fS.y.p.c, .slice fS.y.d.A fS.y.d.n fS.y.d.c, .bool b5, .slice fS.z.p.A fS.z.p.n fS.z.p.c, .slice fS.z.d.A fS.z.d.n fS.z.d.c, .bool b6, .slice fU.x.p.A fU.x.p.n fU.x.p.c, .slice fU.x.d.A fU.x.d.n fU.x.d.c, .bool b7, .slice fU.y.p.A fU.y.p.n fU.y.p.c, .slice fU.y.d.A fU.y.d.n fU.y.d.c, .bool b8, .slice fU.z.p.A fU.z.p.n fU.z.p.c, .slice fU.z.d.A fU.z.d.n fU.z.d.c], .int .i64 0]) ∧ RV w' fA A ∧ RV w' fS S ∧ RV w' fU U3 ∧ Below w.heap.size w w')
    (htu : ∀ m, m < n * 3 → ∀ W (fA fS fU u : VS), RV W fA A → RV W fS S → RV W fU U3 → RV W u (V m) → Calls Tryz.prog 128 #[.agg #[.bool b0, .slice fA.x.p.A fA.x.p.n fA.x.p.c, .slice fA.x.d.A fA.x.d.n fA.x.d.c, .bool b1, .slice fA.y.p.A fA.y.p.n fA.y.p.c, .slice fA.y.d.A fA.y.d.n fA.y.d.c, .bool b2, .slice fA.z.p.A fA.z.p.n fA.z.p.c, .slice fA.z.d.A fA.z.d.n fA.z.d.c, .bool b3, .slice fS.x.p.A fS.x.p.n fS.x.p.c, .slice fS.x.d.A fS.x.d.n fS.x.d.c, .bool b4, .slice fS.y.p.A fS.y.p.n fS.y.p.c, .slice fS.y.d.A fS.y.d.n fS.y.d.c, .bool b5, .slice fS.z.p.A fS.z.p.n fS.z.p.c, .slice fS.z.d.A fS.z.d.n fS.z.d.c, .bool b6, .slice fU.x.p.A fU.x.p.n fU.x.p.c, .slice fU.x.d.A fU.x.d.n fU.x.d.c, .bool b7, .slice fU.y.p.A fU.y.p.n fU.y.p.c, .slice fU.y.d.A fU.y.d.n fU.y.d.c, .bool b8, .slice fU.z.p.A fU.z.p.n fU.z.p.c, .slice fU.z.d.A fU.z.d.n fU.z.d.c], .agg #[.bool (sgB (V m).x.num), .slice u.x.p.A u.x.p.n u.x.p.c, .slice u.x.d.A u.x.d.n u.x.d.c, .bool (sgB (V m).y.num), .slice u.y.p.A u.y.p.n u.y.p.c, .slice u.y.d.A u.y.d.n u.y.d.c, .bool (sgB (V m).z.num), .slice u.z.p.A u.z.p.n u.z.p.c, .slice u.z.d.A u.z.d.n u.z.d.c]] W fun e w' => ∃ s : VS, e = .returned (.agg #[.bool (sgB (X m).x.num), .slice s.x.p.A s.x.p.n s.x.p.c, .slice s.x.d.A s.x.d.n s.x.d.c, .bool (sgB (X m).y.num), .slice s.y.p.A s.y.p.n s.y.p.c, .slice s.y.d.A s.y.d.n s.y.d.c, .bool (sgB (X m).z.num), .slice s.z.p.A s.z.p.n s.z.p.c, .slice s.z.d.A s.z.d.n s.z.d.c]) ∧ RV w' s (X m) ∧ Below W.heap.size W w') :
    Calls Tryz.prog 85 #[.slice (some ⟨b, o, none⟩) n c, .agg #[.string h, .string t]] w fun e w' => ∃ (f : Value) (g cap : Nat) (U : Nat → VS), (∃ (fA fS fU : VS), f = .agg #[.bool b0, .slice fA.x.p.A fA.x.p.n fA.x.p.c, .slice fA.x.d.A fA.x.d.n fA.x.d.c, .bool b1, .slice fA.y.p.A fA.y.p.n fA.y.p.c, .slice fA.y.d.A fA.y.d.n fA.y.d.c, .bool b2, .slice fA.z.p.A fA.z.p.n fA.z.p.c, .slice fA.z.d.A fA.z.d.n fA.z.d.c, .bool b3, .slice fS.x.p.A fS.x.p.n fS.x.p.c, .slice fS.x.d.A fS.x.d.n fS.x.d.c, .bool b4, .slice fS.y.p.A fS.y.p.n fS.y.p.c, .slice fS.y.d.A fS.y.d.n fS.y.d.c, .bool b5, .slice fS.z.p.A fS.z.p.n fS.z.p.c, .slice fS.z.d.A fS.z.d.n fS.z.d.c, .bool b6, .slice fU.x.p.A fU.x.p.n fU.x.p.c, .slice fU.x.d.A fU.x.d.n fU.x.d.c, .bool b7, .slice fU.y.p.A fU.y.p.n fU.y.p.c, .slice fU.y.d.A fU.y.d.n fU.y.d.c, .bool b8, .slice fU.z.p.A fU.z.p.n fU.z.p.c, .slice fU.z.d.A fU.z.d.n fU.z.d.c]) ∧ e = .returned (.tuple #[f, .slice (some ⟨g, 0, none⟩) n cap, .int .i64 0]) ∧ LAt w' g cap n X U ∧ (∀ v, v < n * 3 → RV w' (U v) (X v)) ∧ Below w.heap.size w w' := by
  have hn0 : ((n : Int) == 0) = false := by rw [beq_eq_false_iff_ne]; omega
  have hn5 : decide ((512 : Int) < (n : Int)) = false := by rw [decide_eq_false_iff_not]; omega
  have HTRI := Lib.hid htri
  have HF := Lib.hid hf
  have HTU := Lib.hid htu
  clear htri hf htu
  go_enter Tryz.func85, Tryz.ntmps85
  go_wp2_with fail
  generalize hW : (World.alloc w _).alloc _ = W
  obtain ⟨hB, hsz, R3, R4⟩ := A2 hW
  have R3 := Lib.hid R3
  have R4 := Lib.hid R4
  clear hW hsz
  have hw0 := hB.size
  have h4W := lt_of_row R4.out
  refine (HTRI.out _ hB).mono ?_
  rintro e w1 ⟨⟨v, U, rfl, hown, hU⟩, hb⟩
  replace hB := bstep hB hb
  have R3 := Lib.hid (keep hb R3.out)
  have R4 := Lib.hid (keep hb R4.out)
  obtain ⟨g, cap, rfl, hg, hcap, hL⟩ := lat_of_owns hn1 hown
  have ng4 := Lib.hid (show w.heap.size + 1 ≠ g by omega)
  clear hb hown
  have hgl : g < w1.heap.size := by
    obtain ⟨cur, h1, _⟩ := hL
    exact lt_of_row h1
  obtain ⟨c0, c1, f0, f1⟩ := row2 R3.out
  go_wp2_with fail
  clear c0 c1 f0 f1
  refine (HF.out _).mono ?_
  rintro e w2 ⟨fA, fS, fU, rfl, hA, hS, hU3, hb⟩
  replace hB := bstep hB hb
  have R4 := Lib.hid (keep hb R4.out)
  have HL := Lib.hid (hL.below hb)
  have HU := Lib.hid (fun v hv => (hU v hv).below hb)
  have KA := Lib.hid hA
  have KS := Lib.hid hS
  have KU := Lib.hid hU3
  have ng9 := Lib.hid (show w2.heap.size ≠ g by have := hb.size; omega)
  have LBg := Lib.hid (show w.heap.size ≤ g by omega)
  clear hb hL hU hA hS hU3 hgl
  go_upto_region 7 with fail
  generalize hY : World.alloc w2 _ = Y
  obtain ⟨hb, hsz, R9⟩ := A1 hY
  have R9 := Lib.hid R9
  replace hB := bstep hB hb
  have R4 := Lib.hid (keep hb R4.out)
  have HL := Lib.hid (HL.out.below hb)
  have HU := Lib.hid (fun v hv => (HU.out v hv).below hb)
  have KA := Lib.hid (KA.out.below hb)
  have KS := Lib.hid (KS.out.below hb)
  have KU := Lib.hid (KU.out.below hb)
  clear hY hsz hb hw0 h4W hg
  generalize w2.heap.size = g9 at *
  go_wp2_with fail
  go_loopw [44] (fun x wr => ∃ (i : Nat) (U : Nat → VS), i ≤ n ∧ x = .int .i64 i ∧ Below w.heap.size w wr ∧ Hid (wr.heap[w.heap.size + 1]? = some (.cells #[.bool false, .slice none 0 0, .slice none 0 0, .bool false, .slice none 0 0, .slice none 0 0, .bool false, .slice none 0 0, .slice none 0 0, .bool false, .slice none 0 0, .slice none 0 0, .bool false, .slice none 0 0, .slice none 0 0, .bool false, .slice none 0 0, .slice none 0 0, .bool false, .slice none 0 0, .slice none 0 0, .bool false, .slice none 0 0, .slice none 0 0, .bool false, .slice none 0 0, .slice none 0 0] 125 (0, 0))) ∧ Hid (wr.heap[g9]? = some (.cells #[.bool b0, .slice fA.x.p.A fA.x.p.n fA.x.p.c, .slice fA.x.d.A fA.x.d.n fA.x.d.c, .bool b1, .slice fA.y.p.A fA.y.p.n fA.y.p.c, .slice fA.y.d.A fA.y.d.n fA.y.d.c, .bool b2, .slice fA.z.p.A fA.z.p.n fA.z.p.c, .slice fA.z.d.A fA.z.d.n fA.z.d.c, .bool b3, .slice fS.x.p.A fS.x.p.n fS.x.p.c, .slice fS.x.d.A fS.x.d.n fS.x.d.c, .bool b4, .slice fS.y.p.A fS.y.p.n fS.y.p.c, .slice fS.y.d.A fS.y.d.n fS.y.d.c, .bool b5, .slice fS.z.p.A fS.z.p.n fS.z.p.c, .slice fS.z.d.A fS.z.d.n fS.z.d.c, .bool b6, .slice fU.x.p.A fU.x.p.n fU.x.p.c, .slice fU.x.d.A fU.x.d.n fU.x.d.c, .bool b7, .slice fU.y.p.A fU.y.p.n fU.y.p.c, .slice fU.y.d.A fU.y.d.n fU.y.d.c, .bool b8, .slice fU.z.p.A fU.z.p.n fU.z.p.c, .slice fU.z.d.A fU.z.d.n fU.z.d.c] 125 (0, 0))) ∧ Hid (RV wr fA A) ∧ Hid (RV wr fS S) ∧ Hid (RV wr fU U3) ∧ Hid (LAt wr g cap n (fun v => if v < i * 3 then X v else V v) U) ∧ Hid (∀ v, v < n * 3 → RV wr (U v) ((fun v => if v < i * 3 then X v else V v) v))) (fun x _ => n - (intOf x).toNat)
  case atStart =>
    have e0 : (fun v => if v < 0 * 3 then X v else V v) = V := by
      funext v
      rw [if_neg (by omega)]
    exact ⟨0, U, by omega, rfl, hB, R4, R9, KA, KS, KU, Lib.hid (by rw [e0]; exact HL.out), Lib.hid (fun v hv => by
      show RV _ (U v) (if v < 0 * 3 then X v else V v)
      rw [if_neg (by omega)]
      exact HU.out v hv)⟩
  case round =>
    clear hB R4 R9 KA KS KU HL HU
    obtain ⟨i, U, hi, rfl, hB, R4, R9, KA, KS, KU, HL, HU⟩ := hrel
    by_cases hlt : i < n
    · go_wp2_with fail
      go_loopw [47] (fun x wr => ∃ (j : Nat) (U : Nat → VS), j ≤ 3 ∧ x = .int .i64 j ∧ Below w.heap.size w wr ∧ Hid (wr.heap[w.heap.size + 1]? = some (.cells #[.bool false, .slice none 0 0, .slice none 0 0, .bool false, .slice none 0 0, .slice none 0 0, .bool false, .slice none 0 0, .slice none 0 0, .bool false, .slice none 0 0, .slice none 0 0, .bool false, .slice none 0 0, .slice none 0 0, .bool false, .slice none 0 0, .slice none 0 0, .bool false, .slice none 0 0, .slice none 0 0, .bool false, .slice none 0 0, .slice none 0 0, .bool false, .slice none 0 0, .slice none 0 0] 125 (0, 0))) ∧ Hid (wr.heap[g9]? = some (.cells #[.bool b0, .slice fA.x.p.A fA.x.p.n fA.x.p.c, .slice fA.x.d.A fA.x.d.n fA.x.d.c, .bool b1, .slice fA.y.p.A fA.y.p.n fA.y.p.c, .slice fA.y.d.A fA.y.d.n fA.y.d.c, .bool b2, .slice fA.z.p.A fA.z.p.n fA.z.p.c, .slice fA.z.d.A fA.z.d.n fA.z.d.c, .bool b3, .slice fS.x.p.A fS.x.p.n fS.x.p.c, .slice fS.x.d.A fS.x.d.n fS.x.d.c, .bool b4, .slice fS.y.p.A fS.y.p.n fS.y.p.c, .slice fS.y.d.A fS.y.d.n fS.y.d.c, .bool b5, .slice fS.z.p.A fS.z.p.n fS.z.p.c, .slice fS.z.d.A fS.z.d.n fS.z.d.c, .bool b6, .slice fU.x.p.A fU.x.p.n fU.x.p.c, .slice fU.x.d.A fU.x.d.n fU.x.d.c, .bool b7, .slice fU.y.p.A fU.y.p.n fU.y.p.c, .slice fU.y.d.A fU.y.d.n fU.y.d.c, .bool b8, .slice fU.z.p.A fU.z.p.n fU.z.p.c, .slice fU.z.d.A fU.z.d.n fU.z.d.c] 125 (0, 0))) ∧ Hid (RV wr fA A) ∧ Hid (RV wr fS S) ∧ Hid (RV wr fU U3) ∧ Hid (LAt wr g cap n (fun v => if v < i * 3 + j then X v else V v) U) ∧ Hid (∀ v, v < n * 3 → RV wr (U v) ((fun v => if v < i * 3 + j then X v else V v) v))) (fun x _ => 3 - (intOf x).toNat)
      case atStart => exact ⟨0, U, by omega, rfl, hB, R4, R9, KA, KS, KU, HL, HU⟩
      case round =>
        clear hB R4 R9 KA KS KU HL HU
        obtain ⟨j, U, hj3, rfl, hB, R4, R9, KA, KS, KU, HL, HU⟩ := hrel
        by_cases hj : j < 3
        · have hm3 : i * 3 + j < n * 3 := by omega
          have hoff : (i * 3 + j) * 9 = i * 27 + j * 9 := by omega
          have hmk : i * 3 + j + 1 = i * 3 + (j + 1) := rfl
          generalize hmm : i * 3 + j = m at *
          have hFm : (if m < m then X m else V m) = V m := if_neg (by omega)
          have HFM := Lib.hid hFm
          generalize wr = wz at *
          have HUM := Lib.hid (show RV wz (U m) (V m) by
            have k := HU.out m hm3
            simp only [HFM.out] at k
            exact k)
          go_upto_region 17 with fail
          refine wp_region_late (fun W => Below wz.heap.size wz W) (fun j => j == 13) (by kernel_rfl) ?_
          have hS0 : Below wz.heap.size wz wz.drew := Below.drew (Below.refl _ _)
          refine wpLate_take 0 12 (oi := ({ dst := some 50, op := Go.Op.move (Go.Operand.tmp 7), type := 138, pos := "ref.go:194", after := #[], guard := none } : Oper)) (v := ?_) rfl (by kernel_rfl) (by kernel_rfl) (by kernel_rfl) (by kernel_rfl) (by kernel_rfl) (by kernel_rfl) (fun _ _ _ h => h) (Or.inl ⟨rfl, ?_⟩) hS0 ?_
          rotate_left
          · intro W hW
            skip
            go_simp
            first | done | with_reducible rfl
          try simp only [Act.put, List.setIfInBounds_toArray, List.set_cons_zero, List.set_cons_succ]
          refine wpLate_take 1 12 (oi := ({ dst := some 51, op := Go.Op.move (Go.Operand.tmp 11), type := 3, pos := "ref.go:194", after := #[], guard := none } : Oper)) (v := ?_) rfl (by kernel_rfl) (by kernel_rfl) (by kernel_rfl) (by kernel_rfl) (by kernel_rfl) (by kernel_rfl) (fun _ _ _ h => h) (Or.inl ⟨rfl, ?_⟩) hS0 ?_
          rotate_left
          · intro W hW
            skip
            go_simp
            first | done | with_reducible rfl
          try simp only [Act.put, List.setIfInBounds_toArray, List.set_cons_zero, List.set_cons_succ]
          refine wpLate_take 2 12 (oi := ({ dst := some 52, op := Go.Op.move (Go.Operand.tmp 12), type := 3, pos := "ref.go:194", after := #[], guard := none } : Oper)) (v := ?_) rfl (by kernel_rfl) (by kernel_rfl) (by kernel_rfl) (by kernel_rfl) (by kernel_rfl) (by kernel_rfl) (fun _ _ _ h => h) (Or.inl ⟨rfl, ?_⟩) hS0 ?_
          rotate_left
          · intro W hW
            skip
            go_simp
            first | done | with_reducible rfl
          try simp only [Act.put, List.setIfInBounds_toArray, List.set_cons_zero, List.set_cons_succ]
          refine wpLate_take 3 10 (oi := ({ dst := some 53, op := Go.Op.load 125 (Go.Operand.tmp 9), type := 125, pos := "ref.go:194", after := #[], guard := none } : Oper)) (v := ?_) rfl (by kernel_rfl) (by kernel_rfl) (by kernel_rfl) (by kernel_rfl) (by kernel_rfl) (by kernel_rfl) (fun _ _ _ h => h) (Or.inl ⟨rfl, ?_⟩) hS0 ?_
          rotate_left
          · intro W hW
            have LF := run_loadFr (keep hW R9.out) rfl
            go_simp
            first | done | with_reducible rfl
          try simp only [Act.put, List.setIfInBounds_toArray, List.set_cons_zero, List.set_cons_succ]
          refine wpLate_take 4 7 (oi := ({ dst := some 54, op := Go.Op.move (Go.Operand.tmp 7), type := 138, pos := "ref.go:194", after := #[], guard := none } : Oper)) (v := ?_) rfl (by kernel_rfl) (by kernel_rfl) (by kernel_rfl) (by kernel_rfl) (by kernel_rfl) (by kernel_rfl) (fun _ _ _ h => h) (Or.inl ⟨rfl, ?_⟩) hS0 ?_
          rotate_left
          · intro W hW
            skip
            go_simp
            first | done | with_reducible rfl
          try simp only [Act.put, List.setIfInBounds_toArray, List.set_cons_zero, List.set_cons_succ]
          refine wpLate_take 5 7 (oi := ({ dst := some 55, op := Go.Op.move (Go.Operand.tmp 11), type := 3, pos := "ref.go:194", after := #[], guard := none } : Oper)) (v := ?_) rfl (by kernel_rfl) (by kernel_rfl) (by kernel_rfl) (by kernel_rfl) (by kernel_rfl) (by kernel_rfl) (fun _ _ _ h => h) (Or.inl ⟨rfl, ?_⟩) hS0 ?_
          rotate_left
          · intro W hW
            skip
            go_simp
            first | done | with_reducible rfl
          try simp only [Act.put, List.setIfInBounds_toArray, List.set_cons_zero, List.set_cons_succ]
          refine wpLate_take 6 8 (oi := ({ dst := some 56, op := Go.Op.move (Go.Operand.tmp 12), type := 3, pos := "ref.go:194", after := #[], guard := none } : Oper)) (v := ?_) rfl (by kernel_rfl) (by kernel_rfl) (by kernel_rfl) (by kernel_rfl) (by kernel_rfl) (by kernel_rfl) (fun _ _ _ h => h) (Or.inl ⟨rfl, ?_⟩) hS0 ?_
          rotate_left
          · intro W hW
            skip
            go_simp
            first | done | with_reducible rfl
          try simp only [Act.put, List.setIfInBounds_toArray, List.set_cons_zero, List.set_cons_succ]
          refine wpLate_take 7 8 (oi := ({ dst := some 57, op := Go.Op.indexAddr 138 (Go.Operand.tmp 54) (Go.Operand.tmp 55), type := 0, pos := "ref.go:194", after := #[{ on := 4, ground := Go.Ground.data }, { on := 5, ground := Go.Ground.data }], guard := none } : Oper)) (v := ?_) rfl (by kernel_rfl) (by kernel_rfl) (by kernel_rfl) (by kernel_rfl) (by kernel_rfl) (by kernel_rfl) (fun _ _ _ h => h) (Or.inl ⟨rfl, ?_⟩) hS0 ?_
          rotate_left
          · intro W hW
            skip
            go_simp
            first | done | with_reducible rfl
          try simp only [Act.put, List.setIfInBounds_toArray, List.set_cons_zero, List.set_cons_succ]
          refine wpLate_take 8 9 (oi := ({ dst := some 58, op := Go.Op.indexAddr 192 (Go.Operand.tmp 57) (Go.Operand.tmp 56), type := 0, pos := "ref.go:194", after := #[{ on := 7, ground := Go.Ground.data }, { on := 6, ground := Go.Ground.data }], guard := none } : Oper)) (v := ?_) rfl (by kernel_rfl) (by kernel_rfl) (by kernel_rfl) (by kernel_rfl) (by kernel_rfl) (by kernel_rfl) (fun _ _ _ h => h) (Or.inl ⟨rfl, ?_⟩) hS0 ?_
          rotate_left
          · intro W hW
            skip
            go_simp
            first | done | with_reducible rfl
          try simp only [Act.put, List.setIfInBounds_toArray, List.set_cons_zero, List.set_cons_succ]
          refine wpLate_take 9 10 (oi := ({ dst := some 59, op := Go.Op.load 116 (Go.Operand.tmp 58), type := 116, pos := "ref.go:194", after := #[{ on := 8, ground := Go.Ground.data }], guard := none } : Oper)) (v := ?_) rfl (by kernel_rfl) (by kernel_rfl) (by kernel_rfl) (by kernel_rfl) (by kernel_rfl) (by kernel_rfl) (fun _ _ _ h => h) (Or.inl ⟨rfl, ?_⟩) hS0 ?_
          rotate_left
          · intro W hW
            have lc0 := (HL.out.below hW).cell hm3 (show 0 < 9 by decide)
            have lc1 := (HL.out.below hW).cell hm3 (show 1 < 9 by decide)
            have lc2 := (HL.out.below hW).cell hm3 (show 2 < 9 by decide)
            have lc3 := (HL.out.below hW).cell hm3 (show 3 < 9 by decide)
            have lc4 := (HL.out.below hW).cell hm3 (show 4 < 9 by decide)
            have lc5 := (HL.out.below hW).cell hm3 (show 5 < 9 by decide)
            have lc6 := (HL.out.below hW).cell hm3 (show 6 < 9 by decide)
            have lc7 := (HL.out.below hW).cell hm3 (show 7 < 9 by decide)
            have lc8 := (HL.out.below hW).cell hm3 (show 8 < 9 by decide)
            rw [hoff] at lc0 lc1 lc2 lc3 lc4 lc5 lc6 lc7 lc8
            simp only [vcl, Nat.add_zero, HFM.out, List.getElem?_cons_succ, List.getElem?_cons_zero] at lc0 lc1 lc2 lc3 lc4 lc5 lc6 lc7 lc8
            go_simp
            first | done | with_reducible rfl
          try simp only [Act.put, List.setIfInBounds_toArray, List.set_cons_zero, List.set_cons_succ]
          refine wpLate_take 11 12 (oi := ({ dst := some 61, op := Go.Op.indexAddr 138 (Go.Operand.tmp 50) (Go.Operand.tmp 51), type := 0, pos := "ref.go:194", after := #[{ on := 0, ground := Go.Ground.data }, { on := 1, ground := Go.Ground.data }], guard := none } : Oper)) (v := ?_) rfl (by kernel_rfl) (by kernel_rfl) (by kernel_rfl) (by kernel_rfl) (by kernel_rfl) (by kernel_rfl) (fun _ _ _ h => h) (Or.inl ⟨rfl, ?_⟩) hS0 ?_
          rotate_left
          · intro W hW
            skip
            go_simp
            first | done | with_reducible rfl
          try simp only [Act.put, List.setIfInBounds_toArray, List.set_cons_zero, List.set_cons_succ]
          refine wpLate_one 10 (o := ({ dst := some 60, op := Go.Op.call { callee := Go.Callee.value (Go.Operand.func 128), args := #[Go.Operand.tmp 53, Go.Operand.tmp 59], argTypes := #[125, 116] }, type := 116, pos := "ref.go:194", after := #[{ on := 3, ground := Go.Ground.data }, { on := 9, ground := Go.Ground.data }], guard := none } : Oper)) (by kernel_rfl) rfl rfl (fun K hK => ?_)
          go_simp
          go_at_call 128
          refine (HTU.out m hm3 _ _ _ _ _ (KA.out.below hS0) (KS.out.below hS0) (KU.out.below hS0) (HUM.out.below hS0)).mono ?_
          rintro e wt ⟨su, rfl, hsu, hb⟩
          go_wp2_with fail
          have hS1 := bstep hS0 hb
          refine hK.out _ _ (fun _ => hS1) ?_
          clear hK K hb
          try simp only [Act.put, List.setIfInBounds_toArray, List.set_cons_zero, List.set_cons_succ]
          refine wpLate_one 12 (o := ({ dst := some 62, op := Go.Op.indexAddr 192 (Go.Operand.tmp 61) (Go.Operand.tmp 52), type := 0, pos := "ref.go:194", after := #[{ on := 11, ground := Go.Ground.data }, { on := 2, ground := Go.Ground.data }, { on := 0, ground := Go.Ground.phase }, { on := 1, ground := Go.Ground.phase }, { on := 2, ground := Go.Ground.phase }, { on := 3, ground := Go.Ground.phase }, { on := 4, ground := Go.Ground.phase }, { on := 5, ground := Go.Ground.phase }, { on := 6, ground := Go.Ground.phase }, { on := 7, ground := Go.Ground.phase }, { on := 8, ground := Go.Ground.phase }, { on := 9, ground := Go.Ground.phase }, { on := 10, ground := Go.Ground.phase }], guard := none } : Oper)) (by kernel_rfl) rfl rfl (fun K hK => ?_)
          go_simp
          refine hK.out _ _ (fun _ => hS1) ?_
          clear hK K
          try simp only [Act.put, List.setIfInBounds_toArray, List.set_cons_zero, List.set_cons_succ]
          have HL := Lib.hid (HL.out.below hS1)
          have HU := Lib.hid (fun v hv => (HU.out v hv).below hS1)
          have KA := Lib.hid (KA.out.below hS1)
          have KS := Lib.hid (KS.out.below hS1)
          have KU := Lib.hid (KU.out.below hS1)
          have R4 := Lib.hid (keep hS1 R4.out)
          have R9 := Lib.hid (keep hS1 R9.out)
          replace hB := bstep hB hS1
          clear hS0 hS1
          refine wpLate_one 13 (o := ({ dst := none, op := Go.Op.store 116 (Go.Operand.tmp 62) (Go.Operand.tmp 60), type := 0, pos := "ref.go:194", after := #[{ on := 12, ground := Go.Ground.data }, { on := 10, ground := Go.Ground.data }, { on := 10, ground := Go.Ground.chain }, { on := 0, ground := Go.Ground.phase }, { on := 1, ground := Go.Ground.phase }, { on := 2, ground := Go.Ground.phase }, { on := 3, ground := Go.Ground.phase }, { on := 4, ground := Go.Ground.phase }, { on := 5, ground := Go.Ground.phase }, { on := 6, ground := Go.Ground.phase }, { on := 7, ground := Go.Ground.phase }, { on := 8, ground := Go.Ground.phase }, { on := 9, ground := Go.Ground.phase }, { on := 10, ground := Go.Ground.phase }], guard := none } : Oper)) (by kernel_rfl) rfl rfl (fun K hK => ?_)
          refine wp_store_mid _ _ _ rfl g _ _ rfl rfl (by rw [← hoff]; exact HL.out.there hm3) (by kernel_rfl) (by simp [Value.oneCell']) ?_
          refine hK.out _ _ (fun h => absurd h (by decide)) ?_
          clear hK K
          try simp only [Act.put]
          refine wpLate_done (by kernel_rfl) ?_ _
          have hbool : wt.cell? ⟨g, 0, none⟩ = some (.bool (sgB ((if 0 < m then X 0 else V 0)).x.num)) := by
            have k := HL.out.cell (v := 0) (r := 0) (by omega) (by decide)
            exact k
          have HL2 := HL.out.set hm3 (X m) su
          rw [hoff] at HL2
          have eF : (fun v => if v = m then X m else if v < m then X v else V v) = (fun v => if v < m + 1 then X v else V v) := by
            funext v
            by_cases e1 : v = m
            · rw [if_pos e1, if_pos (by omega), e1]
            · rw [if_neg e1]
              by_cases e2 : v < m
              · rw [if_pos e2, if_pos (by omega)]
              · rw [if_neg e2, if_neg (by omega)]
          rw [eF] at HL2
          generalize hW2 : World.setCells _ _ _ _ = W2
          have HL3 : LAt W2 g cap n (fun v => if v < m + 1 then X v else V v) (fun v => if v = m then su else U v) := by
            rw [← hW2]
            exact HL2
          have HU3 : ∀ v, v < n * 3 → RV W2 (if v = m then su else U v) (if v < m + 1 then X v else V v) := by
            intro v hv
            rw [← hW2]
            by_cases e1 : v = m
            · subst e1
              rw [if_pos rfl, if_pos (by omega)]
              exact hsu.setCellsG hbool _ _
            · rw [if_neg e1]
              have k := (HU.out v hv).setCellsG hbool (i * 27 + j * 9) (vcl (X m) su)
              by_cases e2 : v < m
              · rw [if_pos (show v < m + 1 by omega)]
                rw [if_pos e2] at k
                exact k
              · rw [if_neg (show ¬ v < m + 1 by omega)]
                rw [if_neg e2] at k
                exact k
          have KA2 : RV W2 fA A := by rw [← hW2]; exact KA.out.setCellsG hbool _ _
          have KS2 : RV W2 fS S := by rw [← hW2]; exact KS.out.setCellsG hbool _ _
          have KU2 : RV W2 fU U3 := by rw [← hW2]; exact KU.out.setCellsG hbool _ _
          have eW2 : wt.setCells g (i * 27 + j * 9) (vcl (X m) su) = W2 := hW2
          have R42 := (setCells_other ng4.out (vcl (X m) su) (i * 27 + j * 9) wt).trans R4.out
          rw [eW2] at R42
          have R92 := (setCells_other ng9.out (vcl (X m) su) (i * 27 + j * 9) wt).trans R9.out
          rw [eW2] at R92
          have hB2 : Below w.heap.size w W2 := by rw [← hW2]; exact setCells_below LBg.out (vcl (X m) su) (i * 27 + j * 9) wt hB
          rw [hmk] at HL3 HU3
          clear hW2 eW2 HL2 eF hbool HUM HFM hFm hoff hmk hB R4 R9 KA KS KU HL HU hsu hm3 hmm
          go_wp2_with fail
          go_roundw
          case rel => exact ⟨j + 1, _, by omega, by go_num, hB2, Lib.hid R42, Lib.hid R92, Lib.hid KA2, Lib.hid KS2, Lib.hid KU2, Lib.hid HL3, Lib.hid HU3⟩
          case measure => simp [intOf]; omega
        · obtain rfl : j = 3 := by omega
          rw [show i * 3 + 3 = (i + 1) * 3 by omega] at HL HU
          go_wp2_with fail
          go_roundw
          case rel => exact ⟨i + 1, U, hlt, by go_num, hB, R4, R9, KA, KS, KU, HL, HU⟩
          case measure => simp [intOf]; omega
    · have hin : i = n := by omega
      rw [hin] at HL HU
      have hlt' : ¬ i < n := by omega
      clear hin hi hlt
      have LF := run_loadFr R9.out rfl
      have HT : World.there wr (w.heap.size + 1) 0 27 := there_row R4.out
      have E2 := Lib.hid (setCells_row R4.out ([.bool b0, .slice fA.x.p.A fA.x.p.n fA.x.p.c, .slice fA.x.d.A fA.x.d.n fA.x.d.c, .bool b1, .slice fA.y.p.A fA.y.p.n fA.y.p.c, .slice fA.y.d.A fA.y.d.n fA.y.d.c, .bool b2, .slice fA.z.p.A fA.z.p.n fA.z.p.c, .slice fA.z.d.A fA.z.d.n fA.z.d.c, .bool b3, .slice fS.x.p.A fS.x.p.n fS.x.p.c, .slice fS.x.d.A fS.x.d.n fS.x.d.c, .bool b4, .slice fS.y.p.A fS.y.p.n fS.y.p.c, .slice fS.y.d.A fS.y.d.n fS.y.d.c, .bool b5, .slice fS.z.p.A fS.z.p.n fS.z.p.c, .slice fS.z.d.A fS.z.d.n fS.z.d.c, .bool b6, .slice fU.x.p.A fU.x.p.n fU.x.p.c, .slice fU.x.d.A fU.x.d.n fU.x.d.c, .bool b7, .slice fU.y.p.A fU.y.p.n fU.y.p.c, .slice fU.y.d.A fU.y.d.n fU.y.d.c, .bool b8, .slice fU.z.p.A fU.z.p.n fU.z.p.c, .slice fU.z.d.A fU.z.d.n fU.z.d.c] : List Value) rfl)
      have hB2 := Lib.hid (setCells_below (show w.heap.size ≤ w.heap.size + 1 by omega) ([.bool b0, .slice fA.x.p.A fA.x.p.n fA.x.p.c, .slice fA.x.d.A fA.x.d.n fA.x.d.c, .bool b1, .slice fA.y.p.A fA.y.p.n fA.y.p.c, .slice fA.y.d.A fA.y.d.n fA.y.d.c, .bool b2, .slice fA.z.p.A fA.z.p.n fA.z.p.c, .slice fA.z.d.A fA.z.d.n fA.z.d.c, .bool b3, .slice fS.x.p.A fS.x.p.n fS.x.p.c, .slice fS.x.d.A fS.x.d.n fS.x.d.c, .bool b4, .slice fS.y.p.A fS.y.p.n fS.y.p.c, .slice fS.y.d.A fS.y.d.n fS.y.d.c, .bool b5, .slice fS.z.p.A fS.z.p.n fS.z.p.c, .slice fS.z.d.A fS.z.d.n fS.z.d.c, .bool b6, .slice fU.x.p.A fU.x.p.n fU.x.p.c, .slice fU.x.d.A fU.x.d.n fU.x.d.c, .bool b7, .slice fU.y.p.A fU.y.p.n fU.y.p.c, .slice fU.y.d.A fU.y.d.n fU.y.d.c, .bool b8, .slice fU.z.p.A fU.z.p.n fU.z.p.c, .slice fU.z.d.A fU.z.d.n fU.z.d.c] : List Value) 0 _ hB)
      have hc0 : wr.cell? ⟨w.heap.size + 1, 0, none⟩ = some (.bool false) := (cell_of_row _ _ 0 _ _ _ R4.out).trans rfl
      have HL4 := Lib.hid ((HL.out.congr (F' := X) (fun v hv => if_pos hv)).other ng4.out.symm 0 ([.bool b0, .slice fA.x.p.A fA.x.p.n fA.x.p.c, .slice fA.x.d.A fA.x.d.n fA.x.d.c, .bool b1, .slice fA.y.p.A fA.y.p.n fA.y.p.c, .slice fA.y.d.A fA.y.d.n fA.y.d.c, .bool b2, .slice fA.z.p.A fA.z.p.n fA.z.p.c, .slice fA.z.d.A fA.z.d.n fA.z.d.c, .bool b3, .slice fS.x.p.A fS.x.p.n fS.x.p.c, .slice fS.x.d.A fS.x.d.n fS.x.d.c, .bool b4, .slice fS.y.p.A fS.y.p.n fS.y.p.c, .slice fS.y.d.A fS.y.d.n fS.y.d.c, .bool b5, .slice fS.z.p.A fS.z.p.n fS.z.p.c, .slice fS.z.d.A fS.z.d.n fS.z.d.c, .bool b6, .slice fU.x.p.A fU.x.p.n fU.x.p.c, .slice fU.x.d.A fU.x.d.n fU.x.d.c, .bool b7, .slice fU.y.p.A fU.y.p.n fU.y.p.c, .slice fU.y.d.A fU.y.d.n fU.y.d.c, .bool b8, .slice fU.z.p.A fU.z.p.n fU.z.p.c, .slice fU.z.d.A fU.z.d.n fU.z.d.c] : List Value))
      have HU4 : ∀ v, v < n * 3 → RV (wr.setCells (w.heap.size + 1) 0 ([.bool b0, .slice fA.x.p.A fA.x.p.n fA.x.p.c, .slice fA.x.d.A fA.x.d.n fA.x.d.c, .bool b1, .slice fA.y.p.A fA.y.p.n fA.y.p.c, .slice fA.y.d.A fA.y.d.n fA.y.d.c, .bool b2, .slice fA.z.p.A fA.z.p.n fA.z.p.c, .slice fA.z.d.A fA.z.d.n fA.z.d.c, .bool b3, .slice fS.x.p.A fS.x.p.n fS.x.p.c, .slice fS.x.d.A fS.x.d.n fS.x.d.c, .bool b4, .slice fS.y.p.A fS.y.p.n fS.y.p.c, .slice fS.y.d.A fS.y.d.n fS.y.d.c, .bool b5, .slice fS.z.p.A fS.z.p.n fS.z.p.c, .slice fS.z.d.A fS.z.d.n fS.z.d.c, .bool b6, .slice fU.x.p.A fU.x.p.n fU.x.p.c, .slice fU.x.d.A fU.x.d.n fU.x.d.c, .bool b7, .slice fU.y.p.A fU.y.p.n fU.y.p.c, .slice fU.y.d.A fU.y.d.n fU.y.d.c, .bool b8, .slice fU.z.p.A fU.z.p.n fU.z.p.c, .slice fU.z.d.A fU.z.d.n fU.z.d.c] : List Value)) (U v) (X v) := by
        intro v hv
        have k := (HU.out v hv).setCellsG hc0 0 ([.bool b0, .slice fA.x.p.A fA.x.p.n fA.x.p.c, .slice fA.x.d.A fA.x.d.n fA.x.d.c, .bool b1, .slice fA.y.p.A fA.y.p.n fA.y.p.c, .slice fA.y.d.A fA.y.d.n fA.y.d.c, .bool b2, .slice fA.z.p.A fA.z.p.n fA.z.p.c, .slice fA.z.d.A fA.z.d.n fA.z.d.c, .bool b3, .slice fS.x.p.A fS.x.p.n fS.x.p.c, .slice fS.x.d.A fS.x.d.n fS.x.d.c, .bool b4, .slice fS.y.p.A fS.y.p.n fS.y.p.c, .slice fS.y.d.A fS.y.d.n fS.y.d.c, .bool b5, .slice fS.z.p.A fS.z.p.n fS.z.p.c, .slice fS.z.d.A fS.z.d.n fS.z.d.c, .bool b6, .slice fU.x.p.A fU.x.p.n fU.x.p.c, .slice fU.x.d.A fU.x.d.n fU.x.d.c, .bool b7, .slice fU.y.p.A fU.y.p.n fU.y.p.c, .slice fU.y.d.A fU.y.d.n fU.y.d.c, .bool b8, .slice fU.z.p.A fU.z.p.n fU.z.p.c, .slice fU.z.d.A fU.z.d.n fU.z.d.c] : List Value)
        simp only [if_pos hv] at k
        exact k
      have HU5 := Lib.hid HU4
      clear HU4 hc0 HL HU KA KS KU R4 R9
      go_wp2_with fail
      exact bodyPost_ret (res_ctt rfl fr16_row rfl E2.out rfl) rfl ⟨_, g, cap, U, ⟨fA, fS, fU, rfl⟩, rfl, HL4.out, HU5.out, hB2.out⟩
end Go.Proofs.YthkkdepppjiaeaaGreatDoor
