/- A PART OF THE PROOF, JOINED OUT OF 5 TEXTS. -/
import Derived.Test.YthkkdepppjiaeaaGreatDoorPgInteger
import Derived.Laws.ResultCell
import Derived.Deep.RegionHeld3
import Derived.Deep.RegionWith
import Derived.RegionTactic
import Derived.ChangeAlike
/- Helpers: rows of a world, kept by calls that only lay new blocks. -/
namespace Go.Proofs.YthkkdepppjiaeaaGreatDoor
open Go.RowKit Go.Shelf Go.Sort

theorem lt_of_row {W : World} {g : Nat} {o : Obj} (h : W.heap[g]? = some o) : g < W.heap.size := (Array.getElem?_eq_some_iff.1 h).1
/-- A row stays where a call has only laid new blocks. -/
theorem keep {W w1 : World} {g : Nat} {o : Obj} (hb : Below W.heap.size W w1) (h : W.heap[g]? = some o) : w1.heap[g]? = some o := (hb.block g (lt_of_row h)).trans h
theorem bstep {w W w1 : World} (hB : Below w.heap.size w W) (hb : Below W.heap.size W w1) : Below w.heap.size w w1 := hB.trans (hb.mono hB.size)

theorem A1 {w W : World} {a : Obj} (h : w.alloc a = W) : Below w.heap.size w W ∧ W.heap.size = w.heap.size + 1 ∧ W.heap[w.heap.size]? = some a := by
  subst h
  exact ⟨(Below.refl _ w).alloc (Nat.le_refl _) _, World.size_alloc _ _, heap_alloc_new _ _⟩
theorem A2 {w W : World} {a b : Obj} (h : (w.alloc a).alloc b = W) : Below w.heap.size w W ∧ W.heap.size = w.heap.size + 2 ∧ W.heap[w.heap.size]? = some a ∧ W.heap[w.heap.size + 1]? = some b := by
  obtain ⟨h1, h2, h3⟩ := A1 (w := w) (a := a) rfl
  obtain ⟨g1, g2, g3⟩ := A1 h
  exact ⟨bstep h1 g1, by omega, keep g1 h3, by rw [h2] at g3; exact g3⟩
theorem A3 {w W : World} {a b c : Obj} (h : ((w.alloc a).alloc b).alloc c = W) : Below w.heap.size w W ∧ W.heap.size = w.heap.size + 3 ∧ W.heap[w.heap.size]? = some a ∧ W.heap[w.heap.size + 1]? = some b ∧ W.heap[w.heap.size + 2]? = some c := by
  obtain ⟨h1, h2, h3, h4⟩ := A2 (w := w) (a := a) (b := b) rfl
  obtain ⟨g1, g2, g3⟩ := A1 h
  exact ⟨bstep h1 g1, by omega, keep g1 h3, keep g1 h4, by rw [h2] at g3; exact g3⟩
theorem A4 {w W : World} {a b c d : Obj} (h : (((w.alloc a).alloc b).alloc c).alloc d = W) : Below w.heap.size w W ∧ W.heap.size = w.heap.size + 4 ∧ W.heap[w.heap.size]? = some a ∧ W.heap[w.heap.size + 1]? = some b ∧ W.heap[w.heap.size + 2]? = some c ∧ W.heap[w.heap.size + 3]? = some d := by
  obtain ⟨h1, h2, h3, h4, h5⟩ := A3 (w := w) (a := a) (b := b) (c := c) rfl
  obtain ⟨g1, g2, g3⟩ := A1 h
  exact ⟨bstep h1 g1, by omega, keep g1 h3, keep g1 h4, keep g1 h5, by rw [h2] at g3; exact g3⟩
theorem A5 {w W : World} {a b c d f : Obj} (h : ((((w.alloc a).alloc b).alloc c).alloc d).alloc f = W) : Below w.heap.size w W ∧ W.heap.size = w.heap.size + 5 ∧ W.heap[w.heap.size]? = some a ∧ W.heap[w.heap.size + 1]? = some b ∧ W.heap[w.heap.size + 2]? = some c ∧ W.heap[w.heap.size + 3]? = some d ∧ W.heap[w.heap.size + 4]? = some f := by
  obtain ⟨h1, h2, h3, h4, h5, h6⟩ := A4 (w := w) (a := a) (b := b) (c := c) (d := d) rfl
  obtain ⟨g1, g2, g3⟩ := A1 h
  exact ⟨bstep h1 g1, by omega, keep g1 h3, keep g1 h4, keep g1 h5, keep g1 h6, by rw [h2] at g3; exact g3⟩

/-- The cells and the marks of a row. -/
theorem row1 {W : World} {g : Nat} {a : Value} {t : TypeId} (h : W.heap[g]? = some (.cells #[a] t (0, 0))) : W.cell? ⟨g, 0, none⟩ = some a ∧ W.frozen? ⟨g, 0, none⟩ = false :=
  ⟨cell_of_row W _ 0 _ _ _ h, frozen_of_row W _ 0 _ _ h⟩
theorem row2 {W : World} {g : Nat} {a b : Value} {t : TypeId} (h : W.heap[g]? = some (.cells #[a, b] t (0, 0))) : W.cell? ⟨g, 0, none⟩ = some a ∧ W.cell? ⟨g, 1, none⟩ = some b ∧ W.frozen? ⟨g, 0, none⟩ = false ∧ W.frozen? ⟨g, 1, none⟩ = false :=
  ⟨cell_of_row W _ 0 _ _ _ h, cell_of_row W _ 1 _ _ _ h, frozen_of_row W _ 0 _ _ h, frozen_of_row W _ 1 _ _ h⟩
theorem row3 {W : World} {g : Nat} {a b c : Value} {t : TypeId} (h : W.heap[g]? = some (.cells #[a, b, c] t (0, 0))) : W.cell? ⟨g, 0, none⟩ = some a ∧ W.cell? ⟨g, 1, none⟩ = some b ∧ W.cell? ⟨g, 2, none⟩ = some c ∧ W.frozen? ⟨g, 0, none⟩ = false ∧ W.frozen? ⟨g, 1, none⟩ = false ∧ W.frozen? ⟨g, 2, none⟩ = false :=
  ⟨cell_of_row W _ 0 _ _ _ h, cell_of_row W _ 1 _ _ _ h, cell_of_row W _ 2 _ _ _ h, frozen_of_row W _ 0 _ _ h, frozen_of_row W _ 1 _ _ h, frozen_of_row W _ 2 _ _ h⟩
theorem row4 {W : World} {g : Nat} {a b c d : Value} {t : TypeId} (h : W.heap[g]? = some (.cells #[a, b, c, d] t (0, 0))) : W.cell? ⟨g, 0, none⟩ = some a ∧ W.cell? ⟨g, 1, none⟩ = some b ∧ W.cell? ⟨g, 2, none⟩ = some c ∧ W.cell? ⟨g, 3, none⟩ = some d ∧ W.frozen? ⟨g, 0, none⟩ = false ∧ W.frozen? ⟨g, 1, none⟩ = false ∧ W.frozen? ⟨g, 2, none⟩ = false ∧ W.frozen? ⟨g, 3, none⟩ = false :=
  ⟨cell_of_row W _ 0 _ _ _ h, cell_of_row W _ 1 _ _ _ h, cell_of_row W _ 2 _ _ _ h, cell_of_row W _ 3 _ _ _ h, frozen_of_row W _ 0 _ _ h, frozen_of_row W _ 1 _ _ h, frozen_of_row W _ 2 _ _ h, frozen_of_row W _ 3 _ _ h⟩

theorem store3 {w : World} {g : Nat} {a b c : Value} {t : TypeId} (hg : w.heap[g]? = some (.cells #[a, b, c] t (0, 0))) (x y z : Value) :
    (((w.setCell ⟨g, 0, none⟩ x).setCell ⟨g, 1, none⟩ y).setCell ⟨g, 2, none⟩ z).heap[g]? = some (.cells #[x, y, z] t (0, 0)) := by
  rw [heap_setCell_same _ g 2 _ _ z (heap_setCell_same _ g 1 _ _ y (heap_setCell_same w g 0 _ _ x hg))]
  rfl
theorem store3_below {w0 w : World} {B g : Nat} (h : Below B w0 w) (hB : B ≤ g) (x y z : Value) : Below B w0 (((w.setCell ⟨g, 0, none⟩ x).setCell ⟨g, 1, none⟩ y).setCell ⟨g, 2, none⟩ z) :=
  (store2_below h hB x y).setCell (p := ⟨g, 2, none⟩) hB _
theorem store2_other {V : World} {g k : Nat} {o : Obj} (hne : k ≠ g) (h : V.heap[k]? = some o) (x y : Value) : ((V.setCell ⟨g, 0, none⟩ x).setCell ⟨g, 1, none⟩ y).heap[k]? = some o := by
  rw [heap_setCell_other _ ⟨g, 1, none⟩ _ y hne, heap_setCell_other V ⟨g, 0, none⟩ _ x hne]; exact h
theorem store3_other {V : World} {g k : Nat} {o : Obj} (hne : k ≠ g) (h : V.heap[k]? = some o) (x y z : Value) : (((V.setCell ⟨g, 0, none⟩ x).setCell ⟨g, 1, none⟩ y).setCell ⟨g, 2, none⟩ z).heap[k]? = some o := by
  rw [heap_setCell_other _ ⟨g, 2, none⟩ _ z hne]; exact store2_other hne h x y
/-- A type whose values are rows of n cells. -/
def RowTy (P : Program) (ty : TypeId) (n : Nat) : Prop := ∀ (w : World) (g : Nat) (t : TypeId) (cs : Array Value) (fr : Nat × Nat), w.heap[g]? = some (.cells cs t fr) → cs.size = n → (loadVar ty ⟨g, 0, none⟩).run P w = .ok (.agg cs) w
theorem rowTy_struct {P : Program} {ty : TypeId} {n : Nat} {fs : Array Field} (h1 : P.underlying ty = some (.struct fs)) (h3 : (P.info? ty).map (·.size) = some n) : RowTy P ty n := by
  intro w g t cs fr hg hn
  exact run_loadVar_row w g t ty cs fr _ hg h1 rfl (by rw [h3, hn])
theorem rowTy_array {P : Program} {ty e : TypeId} {n k : Nat} (h1 : P.underlying ty = some (.array k e)) (h3 : (P.info? ty).map (·.size) = some n) : RowTy P ty n := by
  intro w g t cs fr hg hn
  exact run_loadVar_row w g t ty cs fr _ hg h1 rfl (by rw [h3, hn])
section
variable {P : Program} {fn : Func} {tmps : Array Value} {w : World} {t t2 : TypeId} {fr fr2 : Nat × Nat}
theorem res_c {p : Tmp} {ty : TypeId} {g : Nat} {cs : Array Value} {n : Nat} (h : fn.results = #[.cell p ty]) (hT : RowTy P ty n) (hp : tmps.getD p undef = .pointer (some ⟨g, 0, none⟩)) (hg : w.heap[g]? = some (.cells cs t fr)) (hn : cs.size = n) :
    (results fn tmps).run P w = .ok (.agg cs) w := by
  have hp' : tmps[p]?.getD undef = .pointer (some ⟨g, 0, none⟩) := by simpa using hp
  simp [results, h, hp', asAddr, hT w g t cs fr hg hn]
theorem res_ct {p u : Tmp} {ty : TypeId} {g : Nat} {cs : Array Value} {n : Nat} (h : fn.results = #[.cell p ty, .tmp u]) (hT : RowTy P ty n) (hp : tmps.getD p undef = .pointer (some ⟨g, 0, none⟩)) (hg : w.heap[g]? = some (.cells cs t fr)) (hn : cs.size = n) :
    (results fn tmps).run P w = .ok (.tuple #[.agg cs, tmps.getD u undef]) w := by
  have hp' : tmps[p]?.getD undef = .pointer (some ⟨g, 0, none⟩) := by simpa using hp
  simp [results, h, hp', asAddr, hT w g t cs fr hg hn]
theorem res_cc {p q : Tmp} {ty tz : TypeId} {g k : Nat} {cs ds : Array Value} {n m : Nat} (h : fn.results = #[.cell p ty, .cell q tz]) (hT : RowTy P ty n) (hZ : RowTy P tz m) (hp : tmps.getD p undef = .pointer (some ⟨g, 0, none⟩)) (hq : tmps.getD q undef = .pointer (some ⟨k, 0, none⟩)) (hg : w.heap[g]? = some (.cells cs t fr)) (hk : w.heap[k]? = some (.cells ds t2 fr2)) (hn : cs.size = n) (hm : ds.size = m) :
    (results fn tmps).run P w = .ok (.tuple #[.agg cs, .agg ds]) w := by
  have hp' : tmps[p]?.getD undef = .pointer (some ⟨g, 0, none⟩) := by simpa using hp
  have hq' : tmps[q]?.getD undef = .pointer (some ⟨k, 0, none⟩) := by simpa using hq
  simp [results, h, hp', hq', asAddr, hT w g t cs fr hg hn, hZ w k t2 ds fr2 hk hm]
theorem res_cct {p q u : Tmp} {ty tz : TypeId} {g k : Nat} {cs ds : Array Value} {n m : Nat} (h : fn.results = #[.cell p ty, .cell q tz, .tmp u]) (hT : RowTy P ty n) (hZ : RowTy P tz m) (hp : tmps.getD p undef = .pointer (some ⟨g, 0, none⟩)) (hq : tmps.getD q undef = .pointer (some ⟨k, 0, none⟩)) (hg : w.heap[g]? = some (.cells cs t fr)) (hk : w.heap[k]? = some (.cells ds t2 fr2)) (hn : cs.size = n) (hm : ds.size = m) :
    (results fn tmps).run P w = .ok (.tuple #[.agg cs, .agg ds, tmps.getD u undef]) w := by
  have hp' : tmps[p]?.getD undef = .pointer (some ⟨g, 0, none⟩) := by simpa using hp
  have hq' : tmps[q]?.getD undef = .pointer (some ⟨k, 0, none⟩) := by simpa using hq
  simp [results, h, hp', hq', asAddr, hT w g t cs fr hg hn, hZ w k t2 ds fr2 hk hm]
end
theorem num_row : RowTy Tryz.prog 224 2 := rowTy_struct Tryz.underlying224 (by kernel_rfl)
end Go.Proofs.YthkkdepppjiaeaaGreatDoor

/- Walks of the program's package integer: read, both, one, Valid. -/
namespace Go.Proofs.YthkkdepppjiaeaaGreatDoor
open Go.RowKit Go.Shelf Go.Sort

attribute [local go_sem] Oper.semAt_some num_guard num_eq

/-- Is a string an integer's text? -/
def ivB (s : ByteArray) : Bool := vnB (Lib.trimPrefix s.data.toList [45]) && !(Lib.hasPrefix s.data.toList [45] && (Lib.trimPrefix s.data.toList [45] == [48]))

theorem nS_of_valid {t : ByteArray} (h : vnB t.data.toList = true) : t = nS (dval t.data.toList) := by
  have := decDigits_of_valid _ ((vnB_iff _).1 h)
  apply ByteArray.ext
  unfold nS
  rw [this]
theorem dig_head {n : Nat} {c : UInt8} {r : List UInt8} (h : Lib.decDigits n = c :: r) : isDig c := decDigits_dig n c (by rw [h]; simp)
theorem pre_dig (n : Nat) : Lib.hasPrefix (Lib.decDigits n) [45] = false := by
  cases h : Lib.decDigits n with
  | nil => rfl
  | cons c r =>
    have hd := dig_head h
    have : c ≠ 45 := by rintro rfl; exact absurd hd (by unfold isDig; decide)
    unfold Lib.hasPrefix
    simp [List.isPrefixOf, Ne.symm this]
theorem iS_list (z : Int) : (iS z).data.toList = if z < 0 then 45 :: Lib.decDigits z.natAbs else Lib.decDigits z.natAbs := by
  unfold iS; split <;> rfl
theorem iS_pre (z : Int) : Lib.hasPrefix (iS z).data.toList [45] = decide (z < 0) := by
  rw [iS_list]
  by_cases h : z < 0
  · rw [if_pos h, decide_eq_true h]; simp [Lib.hasPrefix, List.isPrefixOf]
  · rw [if_neg h, decide_eq_false h]; exact pre_dig _
theorem iS_trim (z : Int) : Lib.trimPrefix (iS z).data.toList [45] = Lib.decDigits z.natAbs := by
  unfold Lib.trimPrefix
  rw [iS_pre]
  by_cases h : z < 0
  · rw [decide_eq_true h, iS_list, if_pos h]; rfl
  · rw [decide_eq_false h, iS_list, if_neg h]; rfl
theorem dig_zero (n : Nat) : (Lib.decDigits n == [48]) = decide (n = 0) := by
  have := nS_zero n
  rwa [ByteArray.toList_eq, nS_list] at this
theorem ivB_iS (z : Int) : ivB (iS z) = true := by
  unfold ivB
  rw [iS_pre, iS_trim, dig_zero, (vnB_iff _).2 (decDigits_valid _)]
  by_cases h : z < 0
  · have : ¬ z.natAbs = 0 := by omega
    simp [this]
  · simp [h]
theorem ivB_iff (s : ByteArray) : ivB s = true ↔ ∃ z, s = iS z := by
  refine ⟨fun h => ?_, fun ⟨z, h⟩ => h ▸ ivB_iS z⟩
  unfold ivB at h
  rw [Bool.and_eq_true] at h
  obtain ⟨h1, h2⟩ := h
  have hd := decDigits_of_valid _ ((vnB_iff _).1 h1)
  obtain ⟨n, hn⟩ : ∃ n, n = dval (Lib.trimPrefix s.data.toList [45]) := ⟨_, rfl⟩
  rw [← hn] at hd
  rw [← hd, dig_zero] at h2
  by_cases hp : Lib.hasPrefix s.data.toList [45] = true
  · refine ⟨-(n : Int), ?_⟩
    rw [hp] at h2
    have h0 : n ≠ 0 := by intro e; rw [e] at h2; simp at h2
    apply ByteArray.ext
    apply Array.toList_inj.1
    rw [iS_list, if_pos (by omega), show (-(n : Int)).natAbs = n by omega, hd]
    have ht : Lib.trimPrefix s.data.toList [45] = s.data.toList.drop 1 := by unfold Lib.trimPrefix; rw [hp]; rfl
    rw [ht]
    cases hs : s.data.toList with
    | nil => rw [hs] at hp; simp [Lib.hasPrefix, List.isPrefixOf] at hp
    | cons c r =>
      rw [hs] at hp
      simp [Lib.hasPrefix, List.isPrefixOf] at hp
      subst hp; rfl
  · refine ⟨(n : Int), ?_⟩
    apply ByteArray.ext
    apply Array.toList_inj.1
    rw [iS_list, if_neg (by omega), Int.natAbs_natCast, hd]
    unfold Lib.trimPrefix
    rw [if_neg hp]
theorem iS_size (z : Int) : (iS z).size ≤ nl z.natAbs + 1 := by
  show (iS z).data.size ≤ _
  rw [← Array.length_toList, iS_list]
  unfold nl
  split <;> simp
theorem iS_inj {x y : Int} (h : iS x = iS y) : x = y := by
  have h1 := iS_pre x
  have h2 := iS_trim x
  rw [h, iS_pre] at h1
  rw [h, iS_trim] at h2
  have h3 := decDigits_inj h2
  have h4 : (y < 0) ↔ (x < 0) := by simpa using h1
  omega

/-- A number as read, whether it is one or not. -/
def rV (s : ByteArray) : Value := .agg #[.bool (Lib.hasPrefix s.data.toList [45]), .string ⟨(Lib.trimPrefix s.data.toList [45]).toArray⟩]
theorem rV_iS (z : Int) : rV (iS z) = iV z := by
  unfold rV iV
  rw [iS_pre, iS_trim]; rfl

set_option maxRecDepth 100000 in
set_option maxHeartbeats 4000000 in
theorem in_read_any (s t : ByteArray) (neg ok zr : Bool) (w : World) (hs : t.size ≤ maxLen) (h1 : Lib.hasPrefix s.data.toList [45] = neg) (h2 : (⟨(Lib.trimPrefix s.data.toList [45]).toArray⟩ : ByteArray) = t) (h3 : vnB t.data.toList = ok) (h4 : (t.toList == [48]) = zr) :
    Calls Tryz.prog 193 #[.string s] w fun e w' => e = .returned (.tuple #[.agg #[.bool neg, .string t], .bool (ok && !(neg && zr))]) ∧ Below w.heap.size w w' := by
  have hc : ∀ w, _ := fun w => Tryz.strings_CutPrefix s ⟨#[45]⟩ w
  rw [show (⟨#[45]⟩ : ByteArray).data.toList = [45] from rfl, h1, h2] at hc
  have HC := Lib.hid hc
  have hV := fun w => na_valid t w hs
  rw [h3] at hV
  have HV := Lib.hid hV
  clear hc hV h1 h2 h3 hs
  go_enter Tryz.func193, Tryz.ntmps193
  go_wp2_with fail
  refine (HC.out _).mono ?_
  rintro e w1 ⟨rfl, rfl⟩
  go_wp2_with fail
  generalize hW : (w.alloc _).alloc _ = W
  obtain ⟨hB, hsz, r2, r6⟩ := A2 hW
  obtain ⟨c20, c21, f20, f21⟩ := row2 r2
  obtain ⟨c60, c61, f60, f61⟩ := row2 r6
  have HR := Lib.hid r2
  clear hW r2 r6 hsz
  cases ok
  · first
      | go_region_with (first | (go_at_call 170; refine (HV.out _).mono ?_; rintro e w' ⟨rfl, rfl⟩))
      | fail
    all_goals (go_wp2_with fail; exact bodyPost_ret (res_ct rfl num_row rfl (store2 HR.out _ _) rfl) rfl ⟨rfl, (store2_below hB (Nat.le_refl _) _ _).drew⟩)
  · cases neg <;> cases zr
    all_goals
      first
      | go_region_with (first | (go_at_call 170; refine (HV.out _).mono ?_; rintro e w' ⟨rfl, rfl⟩))
      | fail
    all_goals (go_wp2_with fail; exact bodyPost_ret (res_ct rfl num_row rfl (store2 HR.out _ _) rfl) rfl ⟨rfl, (store2_below hB (Nat.le_refl _) _ _).drew⟩)

theorem mk_list (l : List UInt8) : (⟨l.toArray⟩ : ByteArray).data.toList = l := rfl
theorem in_read_str (s : ByteArray) (w : World) (hs : s.size ≤ 100000000) :
    Calls Tryz.prog 193 #[.string s] w fun e w' => e = .returned (.tuple #[rV s, .bool (ivB s)]) ∧ Below w.heap.size w w' := by
  have hl := Lib.trimPrefix_le s.data.toList [45]
  have hsz : (⟨(Lib.trimPrefix s.data.toList [45]).toArray⟩ : ByteArray).size ≤ maxLen := by
    show (Lib.trimPrefix s.data.toList [45]).length ≤ maxLen
    have : s.data.toList.length = s.size := by simp
    unfold maxLen; omega
  have h := in_read_any s ⟨(Lib.trimPrefix s.data.toList [45]).toArray⟩ _ _ _ w hsz rfl rfl rfl rfl
  unfold rV ivB
  rw [ByteArray.toList_eq, mk_list] at h
  exact h
theorem in_read (z : Int) (w : World) (hz : nl z.natAbs ≤ 40000000) :
    Calls Tryz.prog 193 #[.string (iS z)] w fun e w' => e = .returned (.tuple #[iV z, .bool true]) ∧ Below w.heap.size w w' := by
  have h := in_read_str (iS z) w (by have := iS_size z; omega)
  rwa [rV_iS, ivB_iS] at h

set_option maxHeartbeats 2000000 in
theorem in_Valid (s : ByteArray) (w : World) (hs : s.size ≤ 100000000) :
    Calls Tryz.prog 169 #[.string s] w fun e w' => e = .returned (.bool (ivB s)) ∧ Below w.heap.size w w' := by
  have HR := Lib.hid (fun w => in_read_str s w hs)
  clear hs
  unfold rV at HR
  go_enter Tryz.func169, Tryz.ntmps169
  go_wp2_with fail
  refine (HR.out _).mono ?_
  rintro e w1 ⟨rfl, hb1⟩
  go_wp2_with fail
  go_ret
  exact ⟨rfl, hb1.alloc hb1.size _⟩

end Go.Proofs.YthkkdepppjiaeaaGreatDoor

/- Walks of the program's package integer: both, one, and the exported functions. -/
namespace Go.Proofs.YthkkdepppjiaeaaGreatDoor
open Go.RowKit Go.Shelf Go.Sort

attribute [local go_sem] Oper.semAt_some num_guard num_eq

set_option maxHeartbeats 2000000 in
theorem in_both_aux (X Y : ByteArray) (a b : Bool) (s t : ByteArray) (w : World)
    (hx : ∀ w, Calls Tryz.prog 193 #[.string X] w fun e w' => e = .returned (.tuple #[.agg #[.bool a, .string s], .bool true]) ∧ Below w.heap.size w w')
    (hy : ∀ w, Calls Tryz.prog 193 #[.string Y] w fun e w' => e = .returned (.tuple #[.agg #[.bool b, .string t], .bool true]) ∧ Below w.heap.size w w') :
    Calls Tryz.prog 163 #[.string X, .string Y] w fun e w' => e = .returned (.tuple #[.agg #[.bool a, .string s], .agg #[.bool b, .string t], .int .i64 0]) ∧ Below w.heap.size w w' := by
  have HX := Lib.hid hx
  have HY := Lib.hid hy
  clear hx hy
  go_enter Tryz.func163, Tryz.ntmps163
  go_wp2_with fail
  generalize hW : (w.alloc _).alloc _ = W
  obtain ⟨hB, hsz, r4, r5⟩ := A2 hW
  clear hW hsz
  refine (HX.out _).mono ?_
  rintro e w1 ⟨rfl, hb1⟩
  replace hB := bstep hB hb1
  have r4 := Lib.hid (keep hb1 r4)
  have r5 := Lib.hid (keep hb1 r5)
  clear hb1
  go_wp2_with fail
  generalize hW : w1.alloc _ = V
  obtain ⟨hb, hsz, r7⟩ := A1 hW
  clear hW hsz
  replace hB := bstep hB hb
  have r4 := Lib.hid (keep hb r4.out)
  have r5 := Lib.hid (keep hb r5.out)
  have r7 := Lib.hid r7
  clear hb
  refine (HY.out _).mono ?_
  rintro e w2 ⟨rfl, hb2⟩
  replace hB := bstep hB hb2
  have r4 := Lib.hid (keep hb2 r4.out)
  have r5 := Lib.hid (keep hb2 r5.out)
  have r7 := Lib.hid (keep hb2 r7.out)
  clear hb2
  go_wp2_with fail
  generalize hW : w2.alloc _ = U
  obtain ⟨hb, hsz, r9⟩ := A1 hW
  have l4 := lt_of_row r4.out
  have l5 := lt_of_row r5.out
  have n1 : ¬ w2.heap.size = w.heap.size := by omega
  have n2 : ¬ w.heap.size = w2.heap.size := by omega
  have n3 : ¬ w2.heap.size = w.heap.size + 1 := by omega
  have n4 : ¬ w.heap.size + 1 = w2.heap.size := by omega
  clear hW hsz l4 l5
  replace hB := bstep hB hb
  have r4 := Lib.hid (keep hb r4.out)
  have r5 := Lib.hid (keep hb r5.out)
  obtain ⟨c40, c41, f40, f41⟩ := row2 r4.out
  obtain ⟨c50, c51, f50, f51⟩ := row2 r5.out
  obtain ⟨c70, c71, f70, f71⟩ := row2 (keep hb r7.out)
  obtain ⟨c90, c91, f90, f91⟩ := row2 r9
  clear r7 r9 hb HX HY
  go_region
  all_goals
    go_wp2_with fail
    exact bodyPost_ret (res_cct rfl num_row num_row rfl rfl (store2_other (by omega) (store2 r4.out _ _) _ _) (store2 (store2_other (by omega) r5.out _ _) _ _) rfl rfl) rfl ⟨rfl, (store2_below (store2_below hB (Nat.le_refl _) _ _) (by omega) _ _).drew⟩

theorem in_both (x y : Int) (w : World) (hx : nl x.natAbs ≤ 40000000) (hy : nl y.natAbs ≤ 40000000) :
    Calls Tryz.prog 163 #[.string (iS x), .string (iS y)] w fun e w' => e = .returned (.tuple #[iV x, iV y, .int .i64 0]) ∧ Below w.heap.size w w' :=
  in_both_aux (iS x) (iS y) _ _ _ _ w (fun w => in_read x w hx) (fun w => in_read y w hy)

theorem nS_1' : nS 1 = ⟨#[49]⟩ := by unfold nS; rw [show Lib.decDigits 1 = [49] by rw [Lib.decDigits]; rfl]
theorem iS_0 : iS 0 = ⟨#[48]⟩ := by unfold iS; rw [if_neg (by decide)]; exact nS_0
theorem nl_0 : nl 0 = 1 := by unfold nl; rw [Lib.decDigits]; rfl

set_option maxHeartbeats 2000000 in
theorem in_one (x : Int) (w : World) (hx : nl x.natAbs ≤ 40000000) :
    Calls Tryz.prog 192 #[.string (iS x)] w fun e w' => e = .returned (.tuple #[iV x, .int .i64 0]) ∧ Below w.heap.size w w' := by
  have HB := Lib.hid (fun w => in_both x 0 w hx (by rw [show (0 : Int).natAbs = 0 from rfl, nl_0]; decide))
  rw [iS_0] at HB
  unfold iV at HB ⊢
  generalize decide (x < 0) = a at *
  generalize nS x.natAbs = s at *
  generalize decide ((0 : Int) < 0) = b at *
  generalize nS (0 : Int).natAbs = t at *
  clear hx
  go_enter Tryz.func192, Tryz.ntmps192
  go_wp2_with fail
  generalize hW : w.alloc _ = W
  obtain ⟨hB, hsz, r2⟩ := A1 hW
  clear hW
  refine (HB.out _).mono ?_
  rintro e w1 ⟨rfl, hb1⟩
  replace hB := bstep hB hb1
  have l1 := hb1.size
  have r2 := Lib.hid (keep hb1 r2)
  clear hb1
  go_upto_region 2 with fail
  generalize hW : (w1.alloc _).alloc _ = V
  obtain ⟨hb, hsz2, r4, r5⟩ := A2 hW
  clear hW
  replace hB := bstep hB hb
  have r2 := Lib.hid (keep hb r2.out)
  obtain ⟨c20, c21, f20, f21⟩ := row2 r2.out
  obtain ⟨c40, c41, f40, f41⟩ := row2 r4
  clear r4 r5 hb hsz2 l1 hsz HB
  go_wp2_with fail
  exact bodyPost_ret (res_ct rfl num_row rfl (store2 r2.out _ _) rfl) rfl ⟨rfl, store2_below hB (Nat.le_refl _) _ _⟩

set_option maxHeartbeats 2000000 in
theorem in_Sign (x : Int) (w : World) (hx : nl x.natAbs ≤ 40000000) :
    Calls Tryz.prog 162 #[.string (iS x)] w fun e w' => e = .returned (.tuple #[.int .i64 x.sign, .int .i64 0]) ∧ Below w.heap.size w w' := by
  have HO := Lib.hid (fun w => in_one x w hx)
  have HS := Lib.hid (fun w => in_sign x w)
  unfold iV at HO HS
  clear hx
  go_enter Tryz.func162, Tryz.ntmps162
  go_wp2_with fail
  refine (HO.out _).mono ?_
  rintro e w1 ⟨rfl, hb1⟩
  go_wp2_with fail
  refine (HS.out _).mono ?_
  rintro e w2 ⟨rfl, hb2⟩
  go_wp2_with fail
  exact bodyPost_ret (results_tmp2 rfl _ _ _) rfl ⟨rfl, bstep (bstep hb1 (A1 rfl).1) hb2⟩

set_option maxHeartbeats 2000000 in
theorem in_Abs (x : Int) (w : World) (hx : nl x.natAbs ≤ 40000000) :
    Calls Tryz.prog 200 #[.string (iS x)] w fun e w' => e = .returned (.tuple #[.string (nS x.natAbs), .int .i64 0]) ∧ Below w.heap.size w w' := by
  have HO := Lib.hid (fun w => in_one x w hx)
  unfold iV at HO
  clear hx
  go_enter Tryz.func200, Tryz.ntmps200
  go_wp2_with fail
  refine (HO.out _).mono ?_
  rintro e w1 ⟨rfl, hb1⟩
  go_wp2_with fail
  exact bodyPost_ret (results_tmp2 rfl _ _ _) rfl ⟨rfl, bstep hb1 (A1 rfl).1⟩

set_option maxHeartbeats 2000000 in
theorem in_Neg (x : Int) (w : World) (hx : nl x.natAbs ≤ 40000000) :
    Calls Tryz.prog 270 #[.string (iS x)] w fun e w' => e = .returned (.tuple #[.string (iS (-x)), .int .i64 0]) ∧ Below w.heap.size w w' := by
  have HO := Lib.hid (fun w => in_one x w hx)
  have HP := Lib.hid (fun w => in_opposite x w)
  have HT := Lib.hid (fun w => in_text (-x) w (by rw [Int.natAbs_neg]; omega))
  generalize -x = z at *
  unfold iV at HO HP HT
  clear hx
  go_enter Tryz.func270, Tryz.ntmps270
  go_wp2_with fail
  refine (HO.out _).mono ?_
  rintro e w1 ⟨rfl, hb1⟩
  go_wp2_with fail
  refine (HP.out _).mono ?_
  rintro e w2 ⟨rfl, hb2⟩
  go_wp2_with fail
  refine (HT.out _).mono ?_
  rintro e w3 ⟨rfl, hb3⟩
  go_wp2_with fail
  exact bodyPost_ret (results_tmp2 rfl _ _ _) rfl ⟨rfl, bstep (bstep (bstep hb1 (A1 rfl).1) hb2) hb3⟩

theorem nl_addI (x y : Int) : nl (x + y).natAbs ≤ nl x.natAbs + nl y.natAbs := Nat.le_trans (nl_mono (Int.natAbs_add_le x y)) (nl_add _ _)
theorem nl_mulI (x y : Int) : nl (x * y).natAbs ≤ nl x.natAbs + nl y.natAbs := by rw [Int.natAbs_mul]; exact nl_mul _ _

set_option maxRecDepth 100000 in
set_option maxHeartbeats 2000000 in
theorem in_Add (x y : Int) (w : World) (hE : Env w) (hx : nl x.natAbs ≤ 40000000) (hy : nl y.natAbs ≤ 40000000) :
    Calls Tryz.prog 268 #[.string (iS x), .string (iS y)] w fun e w' => e = .returned (.tuple #[.string (iS (x + y)), .int .i64 0]) ∧ Below w.heap.size w w' := by
  have HB := Lib.hid (fun w => in_both x y w hx hy)
  have HP := Lib.hid (fun w hE => in_plus x y w hE hx hy)
  have HT := Lib.hid (fun w => in_text (x + y) w (by have := nl_addI x y; omega))
  have HE := Lib.hid hE
  generalize x + y = z at *
  unfold iV at HB HP HT
  clear hE hx hy
  go_enter Tryz.func268, Tryz.ntmps268
  go_wp2_with fail
  refine (HB.out _).mono ?_
  rintro e w1 ⟨rfl, hb1⟩
  go_wp2_with fail
  refine (HP.out _ (HE.out.below (bstep hb1 (A2 rfl).1))).mono ?_
  rintro e w2 ⟨rfl, hb2⟩
  go_wp2_with fail
  refine (HT.out _).mono ?_
  rintro e w3 ⟨rfl, hb3⟩
  go_wp2_with fail
  exact bodyPost_ret (results_tmp2 rfl _ _ _) rfl ⟨rfl, bstep (bstep (bstep hb1 (A2 rfl).1) hb2) hb3⟩

set_option maxRecDepth 100000 in
set_option maxHeartbeats 2000000 in
theorem in_Mul (x y : Int) (w : World) (hE : Env w) (hx : nl x.natAbs ≤ 40000000) (hy : nl y.natAbs ≤ 40000000) :
    Calls Tryz.prog 140 #[.string (iS x), .string (iS y)] w fun e w' => e = .returned (.tuple #[.string (iS (x * y)), .int .i64 0]) ∧ Below w.heap.size w w' := by
  have HB := Lib.hid (fun w => in_both x y w hx hy)
  have HP := Lib.hid (fun w hE => in_times x y w hE hx hy)
  have HT := Lib.hid (fun w => in_text (x * y) w (by have := nl_mulI x y; omega))
  have HE := Lib.hid hE
  generalize x * y = z at *
  unfold iV at HB HP HT
  clear hE hx hy
  go_enter Tryz.func140, Tryz.ntmps140
  go_wp2_with fail
  refine (HB.out _).mono ?_
  rintro e w1 ⟨rfl, hb1⟩
  go_wp2_with fail
  refine (HP.out _ (HE.out.below (bstep hb1 (A2 rfl).1))).mono ?_
  rintro e w2 ⟨rfl, hb2⟩
  go_wp2_with fail
  refine (HT.out _).mono ?_
  rintro e w3 ⟨rfl, hb3⟩
  go_wp2_with fail
  exact bodyPost_ret (results_tmp2 rfl _ _ _) rfl ⟨rfl, bstep (bstep (bstep hb1 (A2 rfl).1) hb2) hb3⟩
end Go.Proofs.YthkkdepppjiaeaaGreatDoor

/- Walks of the program's package integer: Compare, divide, DivMod. -/
namespace Go.Proofs.YthkkdepppjiaeaaGreatDoor
open Go.RowKit Go.Shelf Go.Sort

attribute [local go_sem] Oper.semAt_some num_guard num_eq

/-- The quotient and the remainder that divide returns. -/
theorem div_uniq {x y q r : Int} (hy : y ≠ 0) (h : r + y * q = x) (h0 : 0 ≤ r) (h1 : r < y.natAbs) : x / y = q ∧ x % y = r := by
  rcases Int.lt_or_gt_of_ne hy with h2 | h2
  · have := (Int.ediv_emod_unique (a := x) (b := -y) (r := r) (q := -q) (by omega)).2 ⟨by rw [← h]; grind, h0, by omega⟩
    rw [Int.ediv_neg, Int.emod_neg] at this
    exact ⟨by omega, this.2⟩
  · exact (Int.ediv_emod_unique (by omega)).2 ⟨h, h0, by omega⟩

theorem div_plain {x y : Int} (hy : y ≠ 0) (h : ¬ x < 0 ∨ x.natAbs % y.natAbs = 0) :
    x / y = (if (decide (x < 0) != decide (y < 0)) = true then -((x.natAbs / y.natAbs : Nat) : Int) else (x.natAbs / y.natAbs : Nat)) ∧ x % y = (x.natAbs % y.natAbs : Nat) := by
  have hm := Nat.mod_lt x.natAbs (show 0 < y.natAbs by omega)
  have hd := Nat.mod_add_div x.natAbs y.natAbs
  have hd' : ((x.natAbs % y.natAbs : Nat) : Int) + (y.natAbs : Int) * ((x.natAbs / y.natAbs : Nat) : Int) = x.natAbs := by exact_mod_cast hd
  generalize x.natAbs % y.natAbs = r at *
  generalize x.natAbs / y.natAbs = q at *
  refine div_uniq hy ?_ (by omega) (by omega)
  rcases Int.lt_or_le x 0 with h1 | h1 <;> rcases Int.lt_or_le y 0 with h2 | h2
  · rw [decide_eq_true h1, decide_eq_true h2]; simp
    rw [show (y.natAbs : Int) = -y by omega] at hd'
    have : r = 0 := by omega
    subst this
    grind
  · rw [decide_eq_true h1, decide_eq_false (by omega)]; simp
    rw [show (y.natAbs : Int) = y by omega] at hd'
    have : r = 0 := by omega
    subst this
    grind
  · rw [decide_eq_false (by omega), decide_eq_true h2]; simp
    rw [show (y.natAbs : Int) = -y by omega] at hd'
    grind
  · rw [decide_eq_false (by omega), decide_eq_false (by omega)]; simp
    rw [show (y.natAbs : Int) = y by omega] at hd'
    grind
theorem div_next {x y : Int} (hy : y ≠ 0) (hx : x < 0) (h : x.natAbs % y.natAbs ≠ 0) :
    x / y = (if (decide (x < 0) != decide (y < 0)) = true then -((x.natAbs / y.natAbs + 1 : Nat) : Int) else (x.natAbs / y.natAbs + 1 : Nat)) ∧ x % y = (y.natAbs - x.natAbs % y.natAbs : Nat) := by
  have hm := Nat.mod_lt x.natAbs (show 0 < y.natAbs by omega)
  have hd := Nat.mod_add_div x.natAbs y.natAbs
  have hd' : ((x.natAbs % y.natAbs : Nat) : Int) + (y.natAbs : Int) * ((x.natAbs / y.natAbs : Nat) : Int) = x.natAbs := by exact_mod_cast hd
  generalize x.natAbs % y.natAbs = r at *
  generalize x.natAbs / y.natAbs = q at *
  refine div_uniq hy ?_ (by omega) (by omega)
  rcases Int.lt_or_le y 0 with h2 | h2
  · rw [decide_eq_true hx, decide_eq_true h2]; simp
    rw [show (y.natAbs : Int) = -y by omega] at hd'
    rw [show ((y.natAbs - r : Nat) : Int) = -y - r by omega]
    grind
  · rw [decide_eq_true hx, decide_eq_false (by omega)]; simp
    rw [show (y.natAbs : Int) = y by omega] at hd'
    rw [show ((y.natAbs - r : Nat) : Int) = y - r by omega]
    grind

set_option maxRecDepth 100000 in
set_option maxHeartbeats 4000000 in
theorem in_divide_next (b : Bool) (s t q r q2 r2 : ByteArray) (n1 n2 : Bool) (s1 s2 : ByteArray) (w : World) (hE : Env w)
    (hD : ∀ w, Env w → Calls Tryz.prog 282 #[.string s, .string t] w fun e w' => e = .returned (.tuple #[.string q, .string r, .int .i64 0]) ∧ Below w.heap.size w w')
    (hr : (r.toList == [48]) = false)
    (hA : ∀ w, Env w → Calls Tryz.prog 226 #[.string q, .string ⟨#[49]⟩] w fun e w' => e = .returned (.tuple #[.string q2, .int .i64 0]) ∧ Below w.heap.size w w')
    (hS : ∀ w, Env w → Calls Tryz.prog 228 #[.string t, .string r] w fun e w' => e = .returned (.tuple #[.string r2, .int .i64 0]) ∧ Below w.heap.size w w')
    (hW1 : ∀ w, Calls Tryz.prog 196 #[.bool (true != b), .string q2] w fun e w' => e = .returned (.agg #[.bool n1, .string s1]) ∧ Below w.heap.size w w')
    (hW2 : ∀ w, Calls Tryz.prog 196 #[.bool false, .string r2] w fun e w' => e = .returned (.agg #[.bool n2, .string s2]) ∧ Below w.heap.size w w') :
    Calls Tryz.prog 286 #[.agg #[.bool true, .string s], .agg #[.bool b, .string t]] w fun e w' => e = .returned (.tuple #[.agg #[.bool n1, .string s1], .agg #[.bool n2, .string s2]]) ∧ Below w.heap.size w w' := by
  have HE := Lib.hid hE
  have HD := Lib.hid hD
  have HA := Lib.hid hA
  have HS := Lib.hid hS
  have HW1 := Lib.hid hW1
  have HW2 := Lib.hid hW2
  clear hE hD hA hS hW1 hW2
  cases b
  all_goals
    go_enter Tryz.func286, Tryz.ntmps286
    go_upto_region 1 with fail
    generalize hW : (((w.alloc _).alloc _).alloc _).alloc _ = W
    obtain ⟨hB, hsz, R2, R3, R4, R5⟩ := A4 hW
    clear hW hsz
    obtain ⟨c20, c21, f20, f21⟩ := row2 R2
    obtain ⟨c30, c31, f30, f31⟩ := row2 R3
    have R2 := Lib.hid R2
    have R3 := Lib.hid R3
    have R4 := Lib.hid R4
    have R5 := Lib.hid R5
    go_wp2_with fail
    refine (HD.out _ (HE.out.below hB)).mono ?_
    rintro e w1 ⟨rfl, hb1⟩
    clear c20 c21 f20 f21 c30 c31 f30 f31
    have hB1 := bstep hB hb1
    have R2 := Lib.hid (keep hb1 R2.out)
    have R3 := Lib.hid (keep hb1 R3.out)
    have R4 := Lib.hid (keep hb1 R4.out)
    have R5 := Lib.hid (keep hb1 R5.out)
    obtain ⟨c20, c21, f20, f21⟩ := row2 R2.out
    obtain ⟨c30, c31, f30, f31⟩ := row2 R3.out
    clear hb1 hB
    go_wp2_with fail
    refine (HA.out _ (HE.out.below hB1)).mono ?_
    rintro e w2 ⟨rfl, hb2⟩
    clear c20 c21 f20 f21 c30 c31 f30 f31
    have hB2 := bstep hB1 hb2
    have R2 := Lib.hid (keep hb2 R2.out)
    have R3 := Lib.hid (keep hb2 R3.out)
    have R4 := Lib.hid (keep hb2 R4.out)
    have R5 := Lib.hid (keep hb2 R5.out)
    obtain ⟨c20, c21, f20, f21⟩ := row2 R2.out
    obtain ⟨c30, c31, f30, f31⟩ := row2 R3.out
    clear hb2 hB1
    go_wp2_with fail
    refine (HS.out _ (HE.out.below hB2)).mono ?_
    rintro e w3 ⟨rfl, hb3⟩
    clear c20 c21 f20 f21 c30 c31 f30 f31
    have hB3 := bstep hB2 hb3
    have R2 := Lib.hid (keep hb3 R2.out)
    have R3 := Lib.hid (keep hb3 R3.out)
    have R4 := Lib.hid (keep hb3 R4.out)
    have R5 := Lib.hid (keep hb3 R5.out)
    obtain ⟨c20, c21, f20, f21⟩ := row2 R2.out
    obtain ⟨c30, c31, f30, f31⟩ := row2 R3.out
    clear hb3 hB2
    go_wp2_with fail
    refine (HW1.out _).mono ?_
    rintro e w4 ⟨rfl, hb4⟩
    clear c20 c21 f20 f21 c30 c31 f30 f31
    have hB4 := bstep hB3 hb4
    have R4 := Lib.hid (keep hb4 R4.out)
    have R5 := Lib.hid (keep hb4 R5.out)
    clear hb4 hB3
    go_wp2_with fail
    refine (HW2.out _).mono ?_
    rintro e w5 ⟨rfl, hb5⟩
    have hB5 := bstep hB4 hb5
    have R4 := Lib.hid (keep hb5 R4.out)
    have R5 := Lib.hid (keep hb5 R5.out)
    obtain ⟨c40, c41, f40, f41⟩ := row2 R4.out
    obtain ⟨c50, c51, f50, f51⟩ := row2 R5.out
    clear hb5 hB4
    go_wp2_with fail
    exact bodyPost_ret (res_cc rfl num_row num_row rfl rfl (store2_other (by omega) (store2 R4.out _ _) _ _) (store2 (store2_other (by omega) R5.out _ _) _ _) rfl rfl) rfl ⟨rfl, store2_below (store2_below hB5 (by omega) _ _) (by omega) _ _⟩

set_option maxRecDepth 100000 in
set_option maxHeartbeats 4000000 in
theorem in_divide_plain (a b c : Bool) (s t q r : ByteArray) (n1 n2 : Bool) (s1 s2 : ByteArray) (w : World) (hE : Env w) (hac : a = false ∨ c = false)
    (hD : ∀ w, Env w → Calls Tryz.prog 282 #[.string s, .string t] w fun e w' => e = .returned (.tuple #[.string q, .string r, .int .i64 0]) ∧ Below w.heap.size w w')
    (hr : (r.toList == [48]) = !c)
    (hW1 : ∀ w, Calls Tryz.prog 196 #[.bool (a != b), .string q] w fun e w' => e = .returned (.agg #[.bool n1, .string s1]) ∧ Below w.heap.size w w')
    (hW2 : ∀ w, Calls Tryz.prog 196 #[.bool false, .string r] w fun e w' => e = .returned (.agg #[.bool n2, .string s2]) ∧ Below w.heap.size w w') :
    Calls Tryz.prog 286 #[.agg #[.bool a, .string s], .agg #[.bool b, .string t]] w fun e w' => e = .returned (.tuple #[.agg #[.bool n1, .string s1], .agg #[.bool n2, .string s2]]) ∧ Below w.heap.size w w' := by
  have HE := Lib.hid hE
  have HD := Lib.hid hD
  have HW1 := Lib.hid hW1
  have HW2 := Lib.hid hW2
  clear hE hD hW1 hW2
  cases a <;> cases b <;> cases c
  any_goals (exfalso; revert hac; decide)
  all_goals
    clear hac
    simp only [Bool.not_true, Bool.not_false] at hr
    go_enter Tryz.func286, Tryz.ntmps286
    go_upto_region 1 with fail
    generalize hW : (((w.alloc _).alloc _).alloc _).alloc _ = W
    obtain ⟨hB, hsz, R2, R3, R4, R5⟩ := A4 hW
    clear hW hsz
    obtain ⟨c20, c21, f20, f21⟩ := row2 R2
    obtain ⟨c30, c31, f30, f31⟩ := row2 R3
    have R2 := Lib.hid R2
    have R3 := Lib.hid R3
    have R4 := Lib.hid R4
    have R5 := Lib.hid R5
    go_wp2_with fail
    refine (HD.out _ (HE.out.below hB)).mono ?_
    rintro e w1 ⟨rfl, hb1⟩
    clear c20 c21 f20 f21 c30 c31 f30 f31
    have hB1 := bstep hB hb1
    have R2 := Lib.hid (keep hb1 R2.out)
    have R3 := Lib.hid (keep hb1 R3.out)
    have R4 := Lib.hid (keep hb1 R4.out)
    have R5 := Lib.hid (keep hb1 R5.out)
    obtain ⟨c20, c21, f20, f21⟩ := row2 R2.out
    obtain ⟨c30, c31, f30, f31⟩ := row2 R3.out
    clear hb1 hB
    go_wp2_with fail
    refine (HW1.out _).mono ?_
    rintro e w4 ⟨rfl, hb4⟩
    clear c20 c21 f20 f21 c30 c31 f30 f31
    have hB4 := bstep hB1 hb4
    have R4 := Lib.hid (keep hb4 R4.out)
    have R5 := Lib.hid (keep hb4 R5.out)
    clear hb4 hB1
    go_wp2_with fail
    refine (HW2.out _).mono ?_
    rintro e w5 ⟨rfl, hb5⟩
    have hB5 := bstep hB4 hb5
    have R4 := Lib.hid (keep hb5 R4.out)
    have R5 := Lib.hid (keep hb5 R5.out)
    obtain ⟨c40, c41, f40, f41⟩ := row2 R4.out
    obtain ⟨c50, c51, f50, f51⟩ := row2 R5.out
    clear hb5 hB4
    go_wp2_with fail
    exact bodyPost_ret (res_cc rfl num_row num_row rfl rfl (store2_other (by omega) (store2 R4.out _ _) _ _) (store2 (store2_other (by omega) R5.out _ _) _ _) rfl rfl) rfl ⟨rfl, store2_below (store2_below hB5 (by omega) _ _) (by omega) _ _⟩

end Go.Proofs.YthkkdepppjiaeaaGreatDoor

/- Walks of the program's package integer: divide, Compare, DivMod at numerals. -/
namespace Go.Proofs.YthkkdepppjiaeaaGreatDoor
open Go.RowKit Go.Shelf Go.Sort

attribute [local go_sem] Oper.semAt_some num_guard num_eq

theorem in_divide (x y : Int) (w : World) (hE : Env w) (hx : nl x.natAbs ≤ 30000000) (hy : nl y.natAbs ≤ 30000000) (h0 : y ≠ 0) :
    Calls Tryz.prog 286 #[iV x, iV y] w fun e w' => e = .returned (.tuple #[iV (x / y), iV (x % y)]) ∧ Below w.heap.size w w' := by
  have hy0 : 0 < y.natAbs := by omega
  have hq := nl_mono (Nat.div_le_self x.natAbs y.natAbs)
  have hr := nl_mono (Nat.le_of_lt (Nat.mod_lt x.natAbs hy0))
  have hz := nS_zero (x.natAbs % y.natAbs)
  by_cases hc : x < 0 ∧ x.natAbs % y.natAbs ≠ 0
  · obtain ⟨h1, h2⟩ := hc
    obtain ⟨e1, e2⟩ := div_next h0 h1 h2
    have hW1 := fun w => in_with (true != decide (y < 0)) (x.natAbs / y.natAbs + 1) w
    have hW2 := fun w => in_with false (y.natAbs - x.natAbs % y.natAbs) w
    rw [decide_eq_true h1] at e1
    rw [← e1] at hW1
    simp only [Bool.false_eq_true, if_false] at hW2
    rw [← e2] at hW2
    rw [decide_eq_false h2] at hz
    have h := in_divide_next (decide (y < 0)) (nS x.natAbs) (nS y.natAbs) _ _ _ _ _ _ _ _ w hE (fun w hE => na_DivMod x.natAbs y.natAbs w hE (by omega) (by omega) hy0) hz
      (fun w hE => by
        have := na_Add (x.natAbs / y.natAbs) 1 w hE (by omega) (by rw [show nl 1 = 1 by unfold nl; rw [Lib.decDigits]; rfl]; decide)
        rwa [nS_1'] at this) (fun w hE => na_Sub y.natAbs (x.natAbs % y.natAbs) w hE (by omega) (by omega) (Nat.le_of_lt (Nat.mod_lt _ hy0))) hW1 hW2
    rw [← decide_eq_true h1] at h
    exact h
  · have h1 : ¬ x < 0 ∨ x.natAbs % y.natAbs = 0 := by
      by_cases hx0 : x < 0
      · exact Or.inr (by simpa [hx0] using hc)
      · exact Or.inl hx0
    obtain ⟨e1, e2⟩ := div_plain h0 h1
    have hW1 := fun w => in_with (decide (x < 0) != decide (y < 0)) (x.natAbs / y.natAbs) w
    have hW2 := fun w => in_with false (x.natAbs % y.natAbs) w
    rw [← e1] at hW1
    simp only [Bool.false_eq_true, if_false] at hW2
    rw [← e2] at hW2
    exact in_divide_plain (decide (x < 0)) (decide (y < 0)) (!decide (x.natAbs % y.natAbs = 0)) (nS x.natAbs) (nS y.natAbs) _ _ _ _ _ _ w hE (by
        rcases h1 with h | h
        · exact Or.inl (decide_eq_false h)
        · exact Or.inr (by rw [decide_eq_true h]; rfl)) (fun w hE => na_DivMod x.natAbs y.natAbs w hE (by omega) (by omega) hy0) (by rw [hz]; simp) hW1 hW2

/-- The three parts of a comparison. -/
theorem sign_sub (x y : Int) : (x + -y).sign = cmpI x y := by
  unfold cmpI
  rcases Int.lt_trichotomy x y with h | h | h
  · rw [Int.sign_eq_neg_one_of_neg (by omega), if_pos h]
  · subst h; simp [show x + -x = 0 by omega]
  · rw [Int.sign_eq_one_of_pos (by omega), if_neg (by omega), if_pos (by omega)]

set_option maxRecDepth 100000 in
set_option maxHeartbeats 4000000 in
theorem in_Compare (x y : Int) (w : World) (hE : Env w) (hx : nl x.natAbs ≤ 30000000) (hy : nl y.natAbs ≤ 30000000) :
    Calls Tryz.prog 141 #[.string (iS x), .string (iS y)] w fun e w' => e = .returned (.tuple #[.int .i64 (cmpI x y), .int .i64 0]) ∧ Below w.heap.size w w' := by
  have HB := Lib.hid (fun w => in_both x y w (by omega) (by omega))
  have HO := Lib.hid (fun w => in_opposite y w)
  have HP := Lib.hid (fun w hE => in_plus x (-y) w hE (by omega) (by rw [Int.natAbs_neg]; omega))
  have HS := Lib.hid (fun w => in_sign (x + -y) w)
  have HE := Lib.hid hE
  rw [sign_sub] at HS
  generalize cmpI x y = c at *
  generalize x + -y = d at *
  generalize -y = m at *
  unfold iV at HB HO HP HS
  generalize decide (x < 0) = a at *
  generalize nS x.natAbs = s at *
  generalize decide (y < 0) = b at *
  generalize nS y.natAbs = t at *
  clear hE hx hy
  go_enter Tryz.func141, Tryz.ntmps141
  go_wp2_with fail
  refine (HB.out _).mono ?_
  rintro e w1 ⟨rfl, hB⟩
  go_wp2_with fail
  generalize hW : (World.alloc _ _).alloc _ = V
  obtain ⟨hb, hsz, R6, R7⟩ := A2 hW
  replace hB := bstep hB hb
  clear hb
  have R6 := Lib.hid R6
  have R7 := Lib.hid R7
  clear hW hsz
  have hE := HE.out.below hB
  have h0 : ∀ d os, (grow (redrawn V d) os).cell? ⟨w1.heap.size, 0, none⟩ = some (.bool a) := fun d os => cell_regrown (row2 R6.out).1 d os
  have h1 : ∀ d os, (grow (redrawn V d) os).cell? ⟨w1.heap.size, 1, none⟩ = some (.string s) := fun d os => cell_regrown (row2 R6.out).2.1 d os
  have h2 : ∀ d os, (grow (redrawn V d) os).cell? ⟨w1.heap.size + 1, 0, none⟩ = some (.bool b) := fun d os => cell_regrown (row2 R7.out).1 d os
  have h3 : ∀ d os, (grow (redrawn V d) os).cell? ⟨w1.heap.size + 1, 1, none⟩ = some (.string t) := fun d os => cell_regrown (row2 R7.out).2.1 d os
  have HP := Lib.hid (fun d os => Calls.regrown_of (HP.out (grow (redrawn V d) os) (hE.below (below_regrown V d os))))
  have HO := Lib.hid (fun d os => Calls.regrown_of (HO.out (grow (redrawn V d) os)))
  have HS := Lib.hid (fun d os => Calls.regrown_of (HS.out (grow (redrawn V d) os)))
  have HE := Lib.hid hE
  clear hE R6 R7
  refine wp_region_quiet_below (by kernel_rfl) (by kernel_rfl) ?_
  repeat (first | quiet_step (with_reducible exact HO.out _ _) | quiet_step (with_reducible exact HP.out _ _) | quiet_step (with_reducible exact HS.out _ _))
  refine wpQuiet_nil ?_
  intro _ hw'
  obtain ⟨⟨dq, osq⟩, hw''⟩ := hw'
  subst hw''
  have hB2 := below_regrown V dq osq
  clear h0 h1 h2 h3 HP HO HS
  generalize grow (redrawn V dq) osq = W2 at *
  go_wp2_with fail
  exact bodyPost_ret (results_tmp2 rfl _ _ _) rfl ⟨rfl, bstep hB hB2⟩

set_option maxRecDepth 100000 in
set_option maxHeartbeats 4000000 in
theorem in_DivMod (x y : Int) (w : World) (hE : Env w) (hx : nl x.natAbs ≤ 30000000) (hy : nl y.natAbs ≤ 30000000) (hy0 : y ≠ 0) :
    Calls Tryz.prog 281 #[.string (iS x), .string (iS y)] w fun e w' => e = .returned (.tuple #[.string (iS (x / y)), .string (iS (x % y)), .int .i64 0]) ∧ Below w.heap.size w w' := by
  have hz := nS_zero y.natAbs
  rw [decide_eq_false (by omega)] at hz
  have HB := Lib.hid (fun w => in_both x y w (by omega) (by omega))
  have HZ := Lib.hid (fun w => in_zero w)
  have HD := Lib.hid (fun w hE => in_divide x y w hE hx hy hy0)
  have hq : (x / y).natAbs ≤ x.natAbs := Int.natAbs_ediv_le_natAbs x y
  have hr0 := Int.emod_nonneg x hy0
  have hr1 : x % y < y.natAbs := Int.emod_lt x hy0
  have HT1 := Lib.hid (fun w => in_text (x / y) w (by have := nl_mono hq; omega))
  have HT2 := Lib.hid (fun w => in_text (x % y) w (by have := nl_mono (m := (x % y).natAbs) (n := y.natAbs) (by omega); omega))
  have HE := Lib.hid hE
  clear hq hr0 hr1 hx hy hy0 hE
  generalize x / y = q at *
  generalize x % y = r at *
  rw [iV_0] at HZ
  unfold iV at HB HD HT1 HT2
  generalize decide (x < 0) = a at *
  generalize nS x.natAbs = s at *
  generalize decide (y < 0) = b at *
  generalize nS y.natAbs = t at *
  generalize decide (q < 0) = c at *
  generalize nS q.natAbs = u at *
  generalize decide (r < 0) = d at *
  generalize nS r.natAbs = v at *
  go_enter Tryz.func281, Tryz.ntmps281
  go_wp2_with fail
  refine (HB.out _).mono ?_
  rintro e w1 ⟨rfl, hB⟩
  go_upto_region 4 with fail
  generalize hW : (World.alloc _ _).alloc _ = V
  obtain ⟨hb, hsz, R7, R8⟩ := A2 hW
  replace hB := bstep hB hb
  clear hb
  have R7 := Lib.hid R7
  have R8 := Lib.hid R8
  clear hW hsz
  have h0 : ∀ d os, (grow (redrawn V d) os).cell? ⟨w1.heap.size + 1, 0, none⟩ = some (.bool b) := fun d os => cell_regrown (row2 R8.out).1 d os
  have h1 : ∀ d os, (grow (redrawn V d) os).cell? ⟨w1.heap.size + 1, 1, none⟩ = some (.string t) := fun d os => cell_regrown (row2 R8.out).2.1 d os
  have HZ := Lib.hid (fun d os => Calls.regrown_of (HZ.out (grow (redrawn V d) os)))
  cases b
  all_goals
    refine wp_region_quiet_below (by kernel_rfl) (by kernel_rfl) ?_
    repeat (quiet_step (with_reducible exact HZ.out _ _))
    refine wpQuiet_nil ?_
    intro _ hw'
    obtain ⟨⟨dq, osq⟩, hw''⟩ := hw'
    subst hw''
    have hb := below_regrown V dq osq
    clear h0 h1 HZ
    generalize grow (redrawn V dq) osq = W2 at *
    replace hB := bstep hB hb
    have R7 := Lib.hid (keep hb R7.out)
    have R8 := Lib.hid (keep hb R8.out)
    clear hb
    obtain ⟨R7c0, R7c1, R7f0, R7f1⟩ := row2 R7.out
    obtain ⟨R8c0, R8c1, R8f0, R8f1⟩ := row2 R8.out
    go_wp2_with fail
    clear R7c0 R7c1 R7f0 R7f1 R8c0 R8c1 R8f0 R8f1
    refine (HD.out _ (HE.out.below hB)).mono ?_
    rintro e w3 ⟨rfl, hb⟩
    replace hB := bstep hB hb
    clear hb R7 R8
    go_upto_region 7 with fail
    generalize hW : (World.alloc _ _).alloc _ = U
    obtain ⟨hb, hsz, R10, R11⟩ := A2 hW
    replace hB := bstep hB hb
    clear hb
    have R10 := Lib.hid R10
    have R11 := Lib.hid R11
    clear hW hsz
    have h0 : ∀ d os, (grow (redrawn U d) os).cell? ⟨w3.heap.size, 0, none⟩ = some (.bool c) := fun d os => cell_regrown (row2 R10.out).1 d os
    have h1 : ∀ d os, (grow (redrawn U d) os).cell? ⟨w3.heap.size, 1, none⟩ = some (.string u) := fun d os => cell_regrown (row2 R10.out).2.1 d os
    have h2 : ∀ e os, (grow (redrawn U e) os).cell? ⟨w3.heap.size + 1, 0, none⟩ = some (.bool d) := fun e os => cell_regrown (row2 R11.out).1 e os
    have h3 : ∀ d os, (grow (redrawn U d) os).cell? ⟨w3.heap.size + 1, 1, none⟩ = some (.string v) := fun d os => cell_regrown (row2 R11.out).2.1 d os
    have HT1 := Lib.hid (fun d os => Calls.regrown_of (HT1.out (grow (redrawn U d) os)))
    have HT2 := Lib.hid (fun d os => Calls.regrown_of (HT2.out (grow (redrawn U d) os)))
    refine wp_region_quiet_below (by kernel_rfl) (by kernel_rfl) ?_
    repeat (first | quiet_step (with_reducible exact HT1.out _ _) | quiet_step (with_reducible exact HT2.out _ _))
    refine wpQuiet_nil ?_
    intro _ hw'
    obtain ⟨⟨dq, osq⟩, hw''⟩ := hw'
    subst hw''
    have hB2 := below_regrown U dq osq
    clear h0 h1 h2 h3 HT1 HT2
    generalize grow (redrawn U dq) osq = W3 at *
    go_wp2_with fail
    exact bodyPost_ret (results_tmp3 rfl _ _ _) rfl ⟨rfl, bstep hB hB2⟩
end Go.Proofs.YthkkdepppjiaeaaGreatDoor
