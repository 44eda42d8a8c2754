/- A PART OF THE PROOF, JOINED OUT OF 3 TEXTS. -/
import Derived.Test.YthkkdepppjiaeaaGreatDoorPeText
import Derived.RangeFuncNested
import Derived.RangeFuncBound
import Derived.RangeFuncCalls
import Derived.RangeFuncLeaves
import Derived.RangeFuncBox
import Derived.RangeFuncWrites
import Derived.Shelf.Abstract
import Derived.Shelf.RegionOpen
import Derived.OwnWalkIn
import Derived.TacticsInMore
import Derived.LoopNIn
import Derived.LoopIn
/- slices.Backward over words: the iterator's contract. -/
namespace Go.Proofs.YthkkdepppjiaeaaGreatDoor
open Go.RowKit Go.Shelf

attribute [local go_sem] Oper.semAt_some

/-- What has come when k rounds are over. -/
def upto {α : Type} (f : Nat → α) (k : Nat) : List α := (List.range k).map f
theorem upto_succ {α : Type} (f : Nat → α) (k : Nat) : upto f (k + 1) = upto f k ++ [f k] := by simp [upto, List.range_succ]
theorem upto_length {α : Type} (f : Nat → α) (k : Nat) : (upto f k).length = k := by simp [upto]

/-- The k-th pair of a list gone through from its end. -/
def bk (zs : List Int) (k : Nat) : Nat × Int := (zs.length - 1 - k, zs[zs.length - 1 - k]?.getD 0)

/-- What a round keeps: the iterator's box, and all below a block number. -/
def KpB (n₀ Bs : Nat) (A B : World) : Prop := B.heap[Bs]? = A.heap[Bs]? ∧ Below n₀ A B

set_option maxRecDepth 100000 in
set_option maxHeartbeats 2000000 in
theorem back1_in {α : Type} (val : α → Nat × Int) (f : Nat → α) (F : Fence) (n : Nat) (h8 : F.fn 271) (hro : F.round = none) (hn : 1 ≤ n) (l Bs n₀ b cap : Nat) (zs : List Int) (hreach : zs.length ≤ 1000000000) (hb : b < n₀) (hf : ∀ k, k < zs.length → val (f k) = bk zs k) (J Jx : List α → World → Prop)
    (hY : ∀ pre x W, J pre W → pre.length < zs.length → YieldAt F (n - 1) Tryz.prog l #[.int .i64 ((val x).1 : Int), .int .u32 (val x).2] W fun e W' =>
      (e = .returned (.bool true) ∧ J (pre ++ [x]) W' ∧ KpB n₀ Bs W W') ∨ (e = .returned (.bool false) ∧ Jx (pre ++ [x]) W'))
    (W : World) (hBs : W.heap[Bs]? = some (.cells #[.slice (some ⟨b, 0, none⟩) zs.length cap] 274 (0, 0))) (hc : ∀ j, j < zs.length → W.cell? ⟨b, j, none⟩ = some (.int .u32 (zs[j]?.getD 0))) (h0 : J [] W) :
    CallsIn F n Tryz.prog 271 #[.func (.yield l) #[] #[], .pointer (some ⟨Bs, 0, none⟩)] W fun e W' => (∃ v, e = .returned v) ∧
      ((∃ ys, ys = upto f zs.length ∧ J ys W') ∨ (∃ pre, (∃ k, k ≤ zs.length ∧ pre = upto f k) ∧ Jx pre W')) := by
  have cb0 : W.cell? ⟨Bs, 0, none⟩ = some (.slice (some ⟨b, 0, none⟩) zs.length cap) := cell_of_one hBs
  have HBs := Lib.hid hBs
  have HC := Lib.hid hc
  clear hBs hc
  refine callsIn_of_wp Tryz.func271 rfl h8 ?_ hro
  simp only [Tryz.ntmps271, List.size_toArray, List.length_cons, List.length_nil, Nat.reduceAdd, Nat.reduceSub, Array.replicate_succ, Array.replicate_zero, List.push_toArray, List.append_toArray, List.nil_append, List.cons_append]
  gi_wp2
  gi_loopw [3] (fun i wr => ∃ r k : Nat, r + k = zs.length ∧ i = .int .i64 ((r : Int) - 1) ∧ J (upto f k) wr ∧ Below n₀ W wr ∧ Hid (wr.heap[Bs]? = W.heap[Bs]?))
    (fun i _ => (intOf i + 1).toNat)
  case atStart => exact ⟨zs.length, 0, rfl, rfl, h0, Below.refl _ _, Lib.hid rfl⟩
  case round =>
    obtain ⟨r, k, hk, rfl, hJs, hnx, hbx⟩ := hrel
    have cb : wr.cell? ⟨Bs, 0, none⟩ = some (.slice (some ⟨b, 0, none⟩) zs.length cap) := cell_of_one (hbx.out.trans HBs.out)
    by_cases hlt : 0 < r
    · obtain ⟨s, rfl⟩ : ∃ s, r = s + 1 := ⟨r - 1, by omega⟩
      have hcx : wr.cell? ⟨b, s, none⟩ = some (.int .u32 (zs[s]?.getD 0)) := (hnx.cell (p := ⟨b, s, none⟩) hb).trans (HC.out s (by omega))
      have hbk : bk zs k = (s, zs[s]?.getD 0) := by unfold bk; rw [show zs.length - 1 - k = s by omega]
      obtain ⟨fn, tmps, assign, body, hy, hR⟩ := hY _ (f k) wr hJs (by rw [upto_length]; omega)
      rw [hf k (by omega), hbk] at hy
      dsimp only at hy
      clear hbk
      rw [show ((s + 1 : Nat) : Int) - 1 = (s : Int) from by omega]
      gi_wp2
      refine hR.mono ?_
      rintro e W3 (⟨rfl, hJ3, hk3⟩ | ⟨rfl, hJx3⟩)
      · have hk4 := hk3.2
        have hk5 := Lib.hid (hk3.1.trans hbx.out)
        clear hk3
        gi_wp2
        go_roundw
        case rel => exact ⟨s, k + 1, by omega, rfl, by rw [upto_succ]; exact hJ3, hnx.trans hk4, hk5⟩
        case measure => simp [intOf]
      · gi_wp2
        refine bodyPost_ret (results_none rfl _ _ _) rfl ?_
        exact ⟨⟨_, rfl⟩, .inr ⟨_, ⟨k + 1, by omega, by rw [upto_succ]⟩, hJx3⟩⟩
    · obtain rfl : r = 0 := by omega
      have hkl : k = zs.length := by omega
      have hJs' : J (upto f zs.length) wr := by rw [← hkl]; exact hJs
      have HJ := Lib.hid hJs'
      clear hkl hJs hJs'
      gi_wp2
      go_end0
      exact ⟨⟨_, rfl⟩, .inl ⟨_, rfl, HJ.out⟩⟩

set_option maxHeartbeats 1000000 in
theorem back_in (F : Fence) (n : Nat) (h6 : F.fn 259) (hro : F.round = none) (a : Option Addr) (len cap : Nat) (w : World) :
    CallsIn F n Tryz.prog 259 #[.slice a len cap] w fun e w' => e = .returned (.func (.func 271) #[] #[.pointer (some ⟨w.heap.size, 0, none⟩)]) ∧ w' = w.alloc (.cells #[.slice a len cap] 274) := by
  refine callsIn_of_wp Tryz.func259 rfl h6 ?_ hro
  simp only [Tryz.ntmps259, List.size_toArray, List.length_cons, List.length_nil, Nat.reduceAdd, Nat.reduceSub, Array.replicate_succ, Array.replicate_zero, List.push_toArray, List.append_toArray, List.nil_append, List.cons_append]
  gi_wp2
  go_ret
  exact ⟨rfl, rfl⟩

theorem back_stops {α : Type} (val : α → Nat × Int) (f : Nat → α) (F : Fence) (n : Nat) (h8 : F.fn 271) (hro : F.round = none) (hn : 1 ≤ n) (Bs n₀ b cap : Nat) (zs : List Int) (hreach : zs.length ≤ 1000000000) (hb : b < n₀) (hf : ∀ k, k < zs.length → val (f k) = bk zs k) (w : World) (hBs : Bs < w.heap.size) (hn₀ : n₀ ≤ w.heap.size)
    (hc : w.heap[Bs]? = some (.cells #[.slice (some ⟨b, 0, none⟩) zs.length cap] 274 (0, 0))) (hI : ∀ j, j < zs.length → w.cell? ⟨b, j, none⟩ = some (.int .u32 (zs[j]?.getD 0))) :
    SeqStopsK F n Tryz.prog 271 #[.pointer (some ⟨Bs, 0, none⟩)] (fun x : α => #[Value.int .i64 ((val x).1 : Int), Value.int .u32 (val x).2]) (KpB n₀ Bs) (fun ys => ys = upto f zs.length)
      (fun pre => ∃ k, k ≤ zs.length ∧ pre = upto f k) zs.length w := fun l J Jx W hW _ _ hY h0 =>
  back1_in val f F n h8 hro hn l Bs n₀ b cap zs hreach hb hf J Jx hY W ((hW.block Bs hBs).trans hc) (fun j hj => ((hW.mono hn₀).cell (p := ⟨b, j, none⟩) hb).trans (hI j hj)) h0

theorem KpB.trans {n₀ Bs : Nat} {A B C : World} (h : KpB n₀ Bs A B) (k : KpB n₀ Bs B C) : KpB n₀ Bs A C := ⟨k.1.trans h.1, h.2.trans k.2⟩
end Go.Proofs.YthkkdepppjiaeaaGreatDoor

/- Walks of the program's package natural: text. -/
namespace Go.Proofs.YthkkdepppjiaeaaGreatDoor
open Go.RowKit Go.Shelf

attribute [local go_sem] Oper.semAt_some

/-- The word that comes in round k, from the last one on. -/
def wk (zs : List Int) (k : Nat) : Nat := (zs[zs.length - 1 - k]?.getD 0).toNat
/-- The text when k rounds are over. -/
def tx (zs : List Int) : Nat → List UInt8
  | 0 => []
  | k + 1 => tx zs k ++ (if k = 0 then Lib.decDigits (wk zs k) else pad9 (wk zs k))

theorem tx_val {zs : List Int} (h : Can zs) (k : Nat) (hk : k < zs.length) : tx zs (k + 1) = Lib.decDigits (wval (zs.drop (zs.length - 1 - k))).toNat := by
  induction k with
  | zero =>
    have hd := drop_cons zs (zs.length - 1) (by omega)
    rw [show zs.drop (zs.length - 1 + 1) = [] from List.drop_of_length_le (by omega)] at hd
    simp only [tx, List.nil_append, if_pos, Nat.sub_zero, wk]
    rw [hd]
    simp [wval]
  | succ k ih =>
    have hd := drop_cons zs (zs.length - 1 - (k + 1)) (by omega)
    rw [show zs.length - 1 - (k + 1) + 1 = zs.length - 1 - k by omega] at hd
    have g := h.1.getD (zs.length - 1 - (k + 1))
    rw [List.getD_eq_getElem?_getD] at g
    have hpos : 1 ≤ wval (zs.drop (zs.length - 1 - k)) := by
      have hc : Can (zs.drop (zs.length - 1 - k)) := ⟨h.1.drop _, by
        rw [List.getLast?_drop, if_neg (by omega)]; exact h.2⟩
      exact hc.pos (by intro e; have := congrArg List.length e; simp at this; omega)
    rw [tx, if_neg (by omega), ih (by omega), hd]
    simp only [wval, wk]
    generalize zs[zs.length - 1 - (k + 1)]?.getD 0 = x at *
    generalize wval (zs.drop (zs.length - 1 - k)) = v at *
    rw [← decDigits_pad v.toNat x.toNat (by omega) (by omega)]
    congr 1
    omega

theorem tx_all {n : Nat} (hn : 0 < n) : tx (ws n) (ws n).length = Lib.decDigits n := by
  have hl : 0 < (ws n).length := ws_len_pos.2 hn
  have := tx_val (ws_can n) ((ws n).length - 1) (by omega)
  rw [show (ws n).length - 1 + 1 = (ws n).length by omega, show (ws n).length - 1 - ((ws n).length - 1) = 0 by omega, List.drop_zero, ws_val] at this
  exact this

theorem isBuilderF_own {T e : TypeId} {B b : Nat} {bs : List Value} {W W' : World} {row : Option Nat} (h : Lib.IsBuilderF T e B b bs W) (hg : W.grownBy W' row) (hr : ∀ r, row = some r → ∃ o : Obj, W.heap[r]? = some o ∧ o.isCells = false) : Lib.IsBuilderF T e B b bs W' := by
  have one : ∀ p, Lib.BuilderAtF T e B b p bs W → Lib.BuilderAtF T e B b p bs W' := by
    rintro p ⟨hB, v, hb, hown, hne⟩
    have hlt : b < W.heap.size := (Array.getElem?_eq_some_iff.1 hb).1
    refine ⟨hB, v, ?_, hown.kept hg ?_, hne⟩
    · rw [hg.block b hlt (fun e => by
        obtain ⟨o, ho, hc⟩ := hr b e.symm
        rw [hb] at ho
        cases ho
        simp [Obj.isCells] at hc)]
      exact hb
    · by_cases hv : v.ownBlock = none
      · exact .inl hv
      · refine .inr fun hh => ?_
        obtain ⟨k, hk⟩ := Option.ne_none_iff_exists'.1 hv
        obtain ⟨o, ho, hc⟩ := hr k (by rw [← hh, hk])
        rcases hown.2 with ⟨rfl, _⟩ | ⟨g, cap, cur, fz, rfl, _, hh2, _⟩
        · simp [Value.ownBlock] at hk
        · have : g = k := by simpa [Value.ownBlock] using hk
          subst this
          rw [hh2] at ho
          cases ho
          simp [Obj.isCells] at hc
  exact h.imp (one _) (one _)

theorem isBuilderF_below {T e : TypeId} {B b : Nat} {bs : List Value} {W W' : World} (h : Lib.IsBuilderF T e B b bs W) (hb : Below W.heap.size W W') : Lib.IsBuilderF T e B b bs W' :=
  isBuilderF_own (row := none) h ⟨hb.os, hb.tape, hb.output, hb.size, fun k hk _ => hb.block k hk⟩ (fun _ e => nomatch e)

theorem repeatL_rep (c : Nat) : Lib.repeatL [48] c = List.replicate c 48 := by
  induction c with
  | zero => rfl
  | succ c ih => rw [Lib.repeatL, ih]; rfl

/-- A pair that comes: an index and a word, both in range. -/
abbrev Pr := { x : Nat × Int // x.1 ≤ 1000000000 ∧ 0 ≤ x.2 ∧ x.2 < 1000000000 }
/-- The digits of one pair. -/
def one_ (L : Nat) (x : Pr) : List UInt8 := if x.1.1 < L - 1 then pad9 x.1.2.toNat else Lib.decDigits x.1.2.toNat
def ctn (L : Nat) (pre : List Pr) : List UInt8 := pre.flatMap (one_ L)
theorem ctn_snoc (L : Nat) (pre : List Pr) (x : Pr) : ctn L (pre ++ [x]) = ctn L pre ++ one_ L x := by simp [ctn]
theorem one_len (L : Nat) (x : Pr) : (one_ L x).length ≤ 9 := by
  have h2 := x.2.2.1
  have h3 := x.2.2.2
  have hw : x.1.2.toNat < 1000000000 := by omega
  have h1 := pad9_len x.1.2.toNat hw
  have h4 := (decDigits_len (u := x.1.2.toNat) (k := 9) (by decide)).2 (by simpa using hw)
  unfold one_
  split <;> omega
theorem ctn_len (L : Nat) (pre : List Pr) : (ctn L pre).length ≤ 9 * pre.length := by
  induction pre with
  | nil => simp [ctn]
  | cons x r ih =>
    have := one_len L x
    simp only [ctn, List.flatMap_cons, List.length_append, List.length_cons] at *
    omega
/-- The k-th pair. -/
def prk (zs : List Int) (h : WOk zs) (hl : zs.length ≤ 1000000000) (k : Nat) : Pr :=
  ⟨bk zs k, by unfold bk; simp only; omega, by
    have := h.getD (zs.length - 1 - k)
    rw [List.getD_eq_getElem?_getD] at this
    exact this⟩
theorem ctn_upto (zs : List Int) (h : WOk zs) (hl : zs.length ≤ 1000000000) (k : Nat) (hk : k ≤ zs.length) : ctn zs.length (upto (prk zs h hl) k) = tx zs k := by
  induction k with
  | zero => rfl
  | succ k ih =>
    rw [upto_succ, ctn_snoc, ih (by omega), tx]
    congr 1
    unfold one_ prk bk wk
    simp only
    by_cases h0 : k = 0
    · rw [if_pos h0, if_neg (by omega)]
    · rw [if_neg h0, if_pos (by omega)]

set_option maxRecDepth 100000 in
set_option maxHeartbeats 4000000 in
theorem na_text (A : Option Addr) (c n : Nat) (w : World) (hv : Rd w (.slice A (ws n).length c) (ws n)) (hl : (ws n).length ≤ 100000000) (hE : Env w) :
    Calls Tryz.prog 241 #[.slice A (ws n).length c] w fun e w' => e = .returned (.string ⟨(Lib.decDigits n).toArray⟩) ∧ Below w.heap.size w w' := by
  by_cases h0 : n = 0
  · subst h0
    have e0 : Lib.decDigits 0 = [48] := by rw [Lib.decDigits]; rfl
    rw [ws_zero, e0]
    clear hv hl hE e0
    go_enter Tryz.func241, Tryz.ntmps241
    go_wp2
    go_ret
    exact ⟨rfl, (Below.refl _ _).alloc (Nat.le_refl _) _⟩
  · have hn : 0 < n := by omega
    have hlp := ws_len_pos.2 hn
    have HT := Lib.hid (tx_all hn)
    have HC := Lib.hid (ws_can n)
    obtain ⟨A', c', e1, e2, e3, e4⟩ := hv
    simp only [Value.slice.injEq] at e1
    obtain ⟨rfl, _, rfl⟩ := e1
    obtain ⟨b, rfl, hc⟩ := e4.at_ hlp
    have hb := World.block_lt_of_cell? w _ (hc 0 hlp)
    have HCl := Lib.hid hc
    have HE := Lib.hid hE
    unfold maxLen at e3
    generalize ws n = zs at *
    clear hc hE e4 h0
    refine (callsIn_wide (n := 5)).1 ?_
    refine callsIn_of_wp_marks Tryz.func241 rfl trivial ?_ rfl
    simp only [Tryz.ntmps241, List.size_toArray, List.length_cons, List.length_nil, Nat.reduceAdd, Nat.reduceSub, Array.replicate_succ, Array.replicate_zero, List.push_toArray, List.append_toArray, List.nil_append, List.cons_append]
    have d0 : ((zs.length : Int) == 0) = false := by rw [beq_eq_false_iff_ne]; omega
    gi_wp2_with (refine ⟨trivial, ?_⟩; gi_at_call 259; refine (back_in Fence.wide 4 trivial rfl _ _ _ _).mono ?_; rintro e w' ⟨rfl, rfl⟩)
    have hB0 : Below w.heap.size w (((w.alloc (.cells #[.slice (some ⟨b, 0, none⟩) zs.length c] 274)).alloc (.cells #[.pointer none, .slice none 0 0] 148)).alloc (.cells #[.slice (some ⟨b, 0, none⟩) zs.length c] 274)) :=
      (((Below.refl _ w).alloc (Nat.le_refl _) _).alloc (by simp) _).alloc (by simp; omega) _
    obtain ⟨W0, hW0⟩ : ∃ W0, W0 = (((w.alloc (.cells #[.slice (some ⟨b, 0, none⟩) zs.length c] 274)).alloc (.cells #[.pointer none, .slice none 0 0] 148)).alloc (.cells #[.slice (some ⟨b, 0, none⟩) zs.length c] 274)) := ⟨_, rfl⟩
    have hsz : W0.heap.size = w.heap.size + 3 := by rw [hW0]; simp
    have hbox : W0.heap[w.heap.size]? = some (.cells #[.slice (some ⟨b, 0, none⟩) zs.length c] 274 (0, 0)) := by
      rw [hW0, Below.heap_alloc _ _ _ (by simp; omega), Below.heap_alloc _ _ _ (by simp)]; exact heap_alloc_new _ _
    have hbl : W0.heap[w.heap.size + 1]? = some (.cells #[.pointer none, .slice none 0 0] 148 (0, 0)) := by
      rw [hW0, Below.heap_alloc _ _ _ (by simp)]; have := heap_alloc_new (w.alloc (.cells #[.slice (some ⟨b, 0, none⟩) zs.length c] 274)) (.cells #[.pointer none, .slice none 0 0] 148); rwa [World.size_alloc] at this
    have hbs : W0.heap[w.heap.size + 2]? = some (.cells #[.slice (some ⟨b, 0, none⟩) zs.length c] 274 (0, 0)) := by
      rw [hW0]; have := heap_alloc_new ((w.alloc (.cells #[.slice (some ⟨b, 0, none⟩) zs.length c] 274)).alloc (.cells #[.pointer none, .slice none 0 0] 148)) (.cells #[.slice (some ⟨b, 0, none⟩) zs.length c] 274); simpa using this
    have hlen9 : zs.length ≤ 1000000000 := by omega
    rw [← hW0] at hB0
    simp only [← hW0]
    have hcl : ∀ j, j < zs.length → W0.cell? ⟨b, j, none⟩ = some (.int .u32 (zs[j]?.getD 0)) := fun j hj => (hB0.cell (p := ⟨b, j, none⟩) hb).trans (HCl.out j hj)
    refine wpIn_rangeFunc_ownG rfl (by decide) (gf := 271) (lb := #[.pointer (some ⟨w.heap.size + 2, 0, none⟩)]) rfl trivial (enters_of Tryz.func271 (by kernel_rfl) rfl)
      (back_stops (α := Pr) (fun x => x.1) (prk zs HC.out.1 hlen9) Fence.wide 4 trivial rfl (by decide) (w.heap.size + 2) w.heap.size b c zs hlen9 hb (fun k _ => rfl) W0 (by omega) (by omega) hbs hcl)
      (fun h k => h.trans k) (fun W l o o' hl ho hc1 hc2 => ⟨(grownBy_putObj' W l o').block (w.heap.size + 2) (by have := (Array.getElem?_eq_some_iff.1 ho).1; omega) (by intro e; cases e; omega), belowK_b (by omega) W l o o' hl ho hc1 hc2⟩) (Below.refl _ _) (fun _ => rfl)
      (fun pre W => (Lib.IsBuilderF 148 5 w.heap.size (w.heap.size + 1) (Lib.byteCells (ctn zs.length pre)) W ∧ W.heap[w.heap.size]? = some (.cells #[.slice (some ⟨b, 0, none⟩) zs.length c] 274 (0, 0)) ∧ W.heap[w.heap.size + 2]? = some (.cells #[.slice (some ⟨b, 0, none⟩) zs.length c] 274 (0, 0))) ∧ Below w.heap.size w W)
      (fun _ _ _ => False) ?own (fun _ _ _ _ _ hs _ _ => hs) ?start
      (fun x => { tmps := #[.slice (some ⟨b, 0, none⟩) zs.length c, .pointer (some ⟨w.heap.size, 0, none⟩), .string ⟨#[]⟩, .pointer (some ⟨w.heap.size + 1, 0, none⟩), .int .i64 (x.1.1 : Int), .int .u32 x.1.2, undef, .slice (some ⟨b, 0, none⟩) zs.length c, .int .i64 zs.length, .bool false, .slice (some ⟨b, 0, none⟩) zs.length c, .func (.func 271) #[] #[.pointer (some ⟨w.heap.size + 2, 0, none⟩)], .int .i64 (x.1.1 : Int), .int .u32 x.1.2, undef, undef, undef, undef, undef, undef, undef, undef, undef, undef, undef, undef, undef, undef, undef, undef], defers := [] }) ?assign ?body ?done ?stop
    case own =>
      refine OwnFrom.and (Own.from (fun s A B row hs hg hr => ⟨isBuilderF_own hs.1 hg (fun r e => hr r e), ?_, ?_⟩) _) (ownFrom_below (by omega) (by omega))
      · rw [hg.block w.heap.size (Array.getElem?_eq_some_iff.1 hs.2.1).1 (fun e => by
          obtain ⟨o, ho, hc1⟩ := hr _ e.symm
          rw [hs.2.1] at ho
          cases ho
          simp [Obj.isCells] at hc1)]
        exact hs.2.1
      · rw [hg.block (w.heap.size + 2) (Array.getElem?_eq_some_iff.1 hs.2.2).1 (fun e => by
          obtain ⟨o, ho, hc1⟩ := hr _ e.symm
          rw [hs.2.2] at ho
          cases ho
          simp [Obj.isCells] at hc1)]
        exact hs.2.2
    case start =>
      exact ⟨⟨.inl ⟨by omega, _, hbl, World.ownsRowF_nil _ _ _ _, by simp [Value.ownBlock]⟩, hbox, hbs⟩, hB0⟩
    case assign =>
      intro l x W K hK
      gi_wp2
      exact hK
    case body =>
      rintro l pre x W ⟨⟨hBu, hbx, hbi⟩, hB⟩ hlt
      obtain ⟨i, hi0⟩ : ∃ i, i = x.1.1 := ⟨_, rfl⟩
      obtain ⟨u, hu0⟩ : ∃ u : Nat, (u : Int) = x.1.2 := by
        obtain ⟨u, hu⟩ := Int.eq_ofNat_of_zero_le x.2.2.1
        exact ⟨u, hu.symm⟩
      have hi : i ≤ 1000000000 := by rw [hi0]; exact x.2.1
      have hu : u < 1000000000 := by have := x.2.2.2; omega
      have H1 : Hid (one_ zs.length x = if i < zs.length - 1 then pad9 u else Lib.decDigits u) := Lib.hid (by
        unfold one_; rw [← hi0, ← hu0, Int.toNat_natCast])
      rw [← hi0, ← hu0]
      clear hi0 hu0
      have HSZ := Lib.hid hsz
      clear hW0 hbox hbl hbs hcl hsz hB0
      have hEW := HE.out.below hB
      have hF0 := fmt_uint u W hu hEW
      obtain ⟨ds, hds⟩ : ∃ ds : ByteArray, ds = ⟨(Lib.decDigits u).toArray⟩ := ⟨_, rfl⟩
      rw [← hds] at hF0
      have hF := Lib.hid hF0
      clear hF0
      have hdl : ds.size ≤ 9 := by rw [hds]; exact (decDigits_len (u := u) (k := 9) (by decide)).2 (by simpa using hu)
      have HDS := Lib.hid hds
      clear hds
      have hcn := ctn_len zs.length pre
      have hbc : (Lib.byteCells (ctn zs.length pre)).length = (ctn zs.length pre).length := by simp [Lib.byteCells]
      have HBu := Lib.hid hBu
      have HBc := Lib.hid hbc
      have HBx := Lib.hid hbx
      have HBi := Lib.hid hbi
      have Hctn := Lib.hid (ctn_snoc zs.length pre x)
      have hsz2 : w.heap.size < W.heap.size := (Array.getElem?_eq_some_iff.1 hbx).1
      have hbi_lt : w.heap.size + 2 < W.heap.size := (Array.getElem?_eq_some_iff.1 hbi).1
      clear hBu hbc hbx hbi hEW
      by_cases hil : i < zs.length - 1
      · have hlt1 : (i : Int) < (zs.length : Int) - 1 := by omega
        gi_wp2_with fail
        refine ⟨trivial, ?_⟩
        refine (CallsIn.inRound l (callsIn_wide.2 hF.out)).mono ?_
        rintro e w1 ⟨rfl, hb1⟩
        have hcx : w1.cell? ⟨w.heap.size, 0, none⟩ = some (.slice (some ⟨b, 0, none⟩) zs.length c) := cell_of_one ((hb1.block _ hsz2).trans HBx.out)
        have hbu1 := isBuilderF_below HBu.out hb1
        have hsz1 : w.heap.size ≤ w1.heap.size := Nat.le_trans (Nat.le_of_lt hsz2) hb1.size
        have hrep := Tryz.strings_Repeat ⟨#[48]⟩ (9 - ds.size) w1 (by omega) (by show 1 * (9 - ds.size) ≤ 140737488355328; omega)
        rw [show ((9 - ds.size : Nat) : Int) = 9 - (ds.size : Int) by omega] at hrep
        have hrs : (Lib.repeatL [48] (9 - ds.size)).length = 9 - ds.size := by rw [Lib.repeatL_length]; simp
        obtain ⟨rs, hrs0⟩ : ∃ rs : ByteArray, rs = ⟨(Lib.repeatL [48] (9 - ds.size)).toArray⟩ := ⟨_, rfl⟩
        have hrl : rs.size = 9 - ds.size := by rw [hrs0]; exact hrs
        rw [show (⟨(Lib.repeatL (⟨#[48]⟩ : ByteArray).data.toList (9 - ds.size)).toArray⟩ : ByteArray) = rs from hrs0.symm] at hrep
        have HRep := Lib.hid hrep
        have HU1 := Lib.hid hbu1
        have HRS := Lib.hid hrs0
        clear hrep hrs hrs0 hbu1
        gi_wp2_with fail
        refine ⟨trivial, ?_⟩
        refine (CallsIn.inRound l (callsIn_wide.2 HRep.out)).mono ?_
        rintro e w2 ⟨rfl, hb2⟩
        have hbu2 := isBuilderF_below HU1.out hb2
        have hb02 : Below W.heap.size W w2 := hb1.trans (hb2.mono hb1.size)
        have hlen2 : (Lib.byteCells (ctn zs.length pre)).length + rs.size ≤ 140737488355328 := by rw [HBc.out]; omega
        have hsz2' : w.heap.size ≤ w2.heap.size := Nat.le_trans hsz1 hb2.size
        have HW := Lib.hid (Tryz.Builder_WriteString_k w.heap.size (w.heap.size + 1) _ rs w2 hbu2 hlen2 hsz2')
        clear hbu2 hlen2
        gi_wp2_with fail
        refine ⟨trivial, ?_⟩
        refine (CallsIn.inRound l (callsIn_wide.2 HW.out)).mono ?_
        rintro e w3 ⟨rfl, hbu3, hb3, ho3⟩
        have hbx3 := ho3 _ _ ((hb02.block _ hsz2).trans HBx.out) (by simp) (by simp)
        have hbi3 := ho3 _ _ ((hb02.block _ hbi_lt).trans HBi.out) (by simp) (by simp)
        have hlen3 : (Lib.byteCells (ctn zs.length pre) ++ Lib.strCells rs).length + ds.size ≤ 140737488355328 := by rw [List.length_append, HBc.out, Lib.strCells_length]; omega
        have hsz3 : w.heap.size ≤ w3.heap.size := Nat.le_trans hsz2' hb3.size
        have HW2 := Lib.hid (Tryz.Builder_WriteString_k w.heap.size (w.heap.size + 1) _ ds w3 (.inr hbu3) hlen3 hsz3)
        have HO3 := Lib.hid ho3
        have HBx3 := Lib.hid hbx3
        have HBi3 := Lib.hid hbi3
        clear hbu3 ho3 hbx3 hbi3 hlen3
        gi_wp2_with fail
        refine ⟨trivial, ?_⟩
        refine (CallsIn.inRound l (callsIn_wide.2 HW2.out)).mono ?_
        rintro e w4 ⟨rfl, hbu4, hb4, ho4⟩
        have hbx4 := ho4 _ _ HBx3.out (by simp) (by simp)
        have hbi4 := ho4 _ _ HBi3.out (by simp) (by simp)
        have HU4 := Lib.hid hbu4
        have HO4 := Lib.hid ho4
        clear hbu4 ho4
        gi_wp2_with fail
        have hball : Below w.heap.size W w4 := ((hb02.mono (Nat.le_of_lt hsz2)).trans hb3).trans hb4
        refine ⟨⟨Nat.le_trans (Nat.le_trans hb02.size hb3.size) hb4.size, fun k o hk ho hne => ?_⟩, ⟨hbi4.trans HBi.out.symm, hball⟩, ⟨.inr ?_, hbx4, hbi4⟩, hB.trans hball⟩
        · have hkb : some k ≠ some (w.heap.size + 1) := by have := HSZ.out; simp only [ne_eq, Option.some.injEq]; omega
          have hnc : ∀ c fz, o ≠ .cells c 5 fz := by intro c fz e; subst e; simp [Obj.isCells] at hne
          exact HO4.out k o (HO3.out k o ((hb02.block k (Array.getElem?_eq_some_iff.1 ho).1).trans ho) hkb hnc) hkb hnc
        · rw [Hctn.out, H1.out, if_pos hil, Lib.byteCells_append]
          have := HU4.out
          rw [HRS.out, List.append_assoc] at this
          have e9 : pad9 u = Lib.repeatL [48] (9 - ds.size) ++ Lib.decDigits u := by
            rw [pad9, repeatL_rep, HDS.out]; rfl
          have e10 : Lib.strCells ds = Lib.byteCells (Lib.decDigits u) := by rw [HDS.out]; rfl
          rw [e10] at this
          rw [e9, Lib.byteCells_append]
          exact this
      · have hlt1 : ¬ (i : Int) < (zs.length : Int) - 1 := by omega
        gi_wp2_with fail
        refine ⟨trivial, ?_⟩
        refine (CallsIn.inRound l (callsIn_wide.2 hF.out)).mono ?_
        rintro e w1 ⟨rfl, hb1⟩
        have hcx : w1.cell? ⟨w.heap.size, 0, none⟩ = some (.slice (some ⟨b, 0, none⟩) zs.length c) := cell_of_one ((hb1.block _ hsz2).trans HBx.out)
        have hbu1 := isBuilderF_below HBu.out hb1
        have hlen1 : (Lib.byteCells (ctn zs.length pre)).length + ds.size ≤ 140737488355328 := by rw [HBc.out]; omega
        have hsz1 : w.heap.size ≤ w1.heap.size := Nat.le_trans (Nat.le_of_lt hsz2) hb1.size
        have HW := Lib.hid (Tryz.Builder_WriteString_k w.heap.size (w.heap.size + 1) _ ds w1 hbu1 hlen1 hsz1)
        clear hbu1 hlen1
        gi_wp2_with fail
        refine ⟨trivial, ?_⟩
        refine (CallsIn.inRound l (callsIn_wide.2 HW.out)).mono ?_
        rintro e w2 ⟨rfl, hbu2, hb2, ho2⟩
        have hbx2 := ho2 _ _ ((hb1.block _ hsz2).trans HBx.out) (by simp) (by simp)
        have HU2 := Lib.hid hbu2
        have HO2 := Lib.hid ho2
        clear hbu2 ho2
        gi_wp2_with fail
        have hbi2 := HO2.out _ _ ((hb1.block _ hbi_lt).trans HBi.out) (by simp) (by simp)
        refine ⟨⟨Nat.le_trans hb1.size hb2.size, fun k o hk ho hne => ?_⟩, ⟨hbi2.trans HBi.out.symm, (hb1.mono (Nat.le_of_lt hsz2)).trans hb2⟩, ⟨.inr ?_, hbx2, hbi2⟩, hB.trans ((hb1.mono (Nat.le_of_lt hsz2)).trans hb2)⟩
        · exact HO2.out k o ((hb1.block k (Array.getElem?_eq_some_iff.1 ho).1).trans ho) (by have := HSZ.out; simp only [ne_eq, Option.some.injEq]; omega) (by intro c fz e; subst e; simp [Obj.isCells] at hne)
        · rw [Hctn.out, H1.out, if_neg hil, Lib.byteCells_append]
          have := HU2.out
          rw [HDS.out] at this
          exact this
    case done =>
      rintro D xs W hD rfl ⟨⟨hBu, hbx, hbi⟩, hB⟩ hK
      rw [ctn_upto zs HC.out.1 hlen9 _ (Nat.le_refl _), HT.out] at hBu
      clear hW0 hbox hbl hbs hcl hB0
      have hne : Lib.decDigits n ≠ [] := by intro e; exact decDigits_ne n e
      have HS := Lib.hid (Tryz.Builder_String_k w.heap.size (w.heap.size + 1) _ W hBu hne)
      clear hBu
      gi_wp2_with fail
      refine ⟨trivial, ?_⟩
      refine (callsIn_wide.2 HS.out).mono ?_
      rintro e w2 ⟨rfl, hbu2, hb2, ho2⟩
      have hK2 := ho2 _ _ hK (by simp; omega) (by simp)
      clear hbu2 ho2
      gi_wp2_with fail
      refine ⟨by simp, .inl ⟨_, _, rfl, run_takeDeferred hK2, ?_⟩⟩
      exact ⟨_, results_tmp rfl _ _ _, rfl, (hB.trans hb2).trans (belowK_b (w := w) (Nat.le_refl _) w2 D _ _ (by have := hsz; omega) hK2 rfl rfl)⟩
    case stop =>
      rintro D c pre W _ _ h _
      exact h.elim
end Go.Proofs.YthkkdepppjiaeaaGreatDoor

/- Walks of the program's package natural: both, apply, and the exported functions at numerals. -/
namespace Go.Proofs.YthkkdepppjiaeaaGreatDoor
open Go.RowKit Go.Shelf

attribute [local go_sem] Oper.semAt_some

/-- The numeral of a natural number. -/
def nS (n : Nat) : ByteArray := ⟨(Lib.decDigits n).toArray⟩
/-- How many digits it has. -/
def nl (n : Nat) : Nat := (Lib.decDigits n).length
theorem nS_size (n : Nat) : (nS n).size = nl n := rfl
theorem nS_list (n : Nat) : (nS n).data.toList = Lib.decDigits n := rfl
theorem nl_pos (n : Nat) : 1 ≤ nl n := by
  have := decDigits_ne n
  unfold nl
  cases h : Lib.decDigits n with
  | nil => exact absurd h this
  | cons => simp
theorem nl_le {n k : Nat} (hk : 1 ≤ k) : nl n ≤ k ↔ n < 10 ^ k := decDigits_len hk
theorem nl_lt (n : Nat) : n < 10 ^ nl n := (nl_le (nl_pos n)).1 (Nat.le_refl _)
theorem nl_mono {m n : Nat} (h : m ≤ n) : nl m ≤ nl n := (nl_le (nl_pos n)).2 (Nat.lt_of_le_of_lt h (nl_lt n))
theorem nl_add (m n : Nat) : nl (m + n) ≤ nl m + nl n := by
  refine (nl_le (by have := nl_pos m; omega)).2 ?_
  have h1 := nl_lt m
  have h2 := nl_lt n
  have p1 := nl_pos m
  have p2 := nl_pos n
  rw [Nat.pow_add]
  have q1 : 10 ^ 1 ≤ 10 ^ nl m := Nat.pow_le_pow_right (by decide) p1
  have q2 : 10 ^ 1 ≤ 10 ^ nl n := Nat.pow_le_pow_right (by decide) p2
  generalize 10 ^ nl m = x at *
  generalize 10 ^ nl n = y at *
  have : x * 2 ≤ x * y := Nat.mul_le_mul_left x (by omega)
  have : 2 * y ≤ x * y := Nat.mul_le_mul_right y (by omega)
  omega
theorem nl_mul (m n : Nat) : nl (m * n) ≤ nl m + nl n := by
  refine (nl_le (by have := nl_pos m; omega)).2 ?_
  rw [Nat.pow_add]
  exact Nat.mul_lt_mul'' (nl_lt m) (nl_lt n)
theorem nl_ws (n : Nat) : (ws n).length ≤ nl n := by
  refine ws_len_iff.2 ?_
  rw [bpow_ten]
  have h1 := nl_lt n
  have : 10 ^ nl n ≤ 10 ^ (9 * nl n) := Nat.pow_le_pow_right (by decide) (by omega)
  omega

theorem na_valid_nS (n : Nat) (w : World) (hn : nl n ≤ 100000000) :
    Calls Tryz.prog 170 #[.string (nS n)] w fun e w' => e = .returned (.bool true) ∧ w' = w := by
  have h := na_valid (nS n) w (by rw [nS_size]; unfold maxLen; omega)
  rw [nS_list, (vnB_iff _).2 (decDigits_valid n)] at h
  exact h

theorem na_read_nS (n : Nat) (w : World) (hn : nl n ≤ 100000000) :
    Calls Tryz.prog 240 #[.string (nS n)] w fun e w' => ∃ v, e = .returned v ∧ Own w' w.heap.size v (ws n) ∧ Below w.heap.size w w' := by
  have h := na_read (nS n) w (by rw [nS_size]; omega) (by rw [nS_list]; exact (decDigits_valid n).2.1)
  rw [nS_list, decDigits_dval] at h
  exact h

set_option maxHeartbeats 2000000 in
theorem na_both (a b : Nat) (w : World) (ha : nl a ≤ 100000000) (hb : nl b ≤ 100000000) :
    Calls Tryz.prog 223 #[.string (nS a), .string (nS b)] w fun e w' => ∃ va vb, e = .returned (.tuple #[va, vb, .int .i64 0]) ∧ Rd w' va (ws a) ∧ Rd w' vb (ws b) ∧ Below w.heap.size w w' := by
  have hRA := Lib.hid (fun w => na_read_nS a w ha)
  have hRB := Lib.hid (fun w => na_read_nS b w hb)
  have hVA := Lib.hid (fun w => na_valid_nS a w ha)
  have hVB := Lib.hid (fun w => na_valid_nS b w hb)
  clear ha hb
  go_enter Tryz.func223, Tryz.ntmps223
  go_wp2_with fail
  refine (hVA.out _).mono ?_
  rintro e w' ⟨rfl, rfl⟩
  go_wp2_with fail
  refine (hVB.out _).mono ?_
  rintro e w' ⟨rfl, rfl⟩
  go_wp2_with fail
  refine (hRA.out _).mono ?_
  rintro e w1 ⟨va, rfl, hA, hb1⟩
  go_wp2_with fail
  refine (hRB.out _).mono ?_
  rintro e w2 ⟨vb, rfl, hB, hb2⟩
  go_wp2_with fail
  refine bodyPost_ret (results_tmp3 rfl _ _ _) rfl ?_
  exact ⟨va, vb, rfl, hA.rd.below hb2, hB.rd, hb1.trans (hb2.mono hb1.size)⟩

set_option maxHeartbeats 2000000 in
theorem na_apply (g : Nat) (va vb : Value) (r : Nat) (w : World) (eg : ∀ args w, (callFunc g args).run Tryz.prog w = .ok (.enter g args) w) (hE : Env w) (hr : (ws r).length ≤ 100000000)
    (hg : Calls Tryz.prog g #[va, vb] w fun e w' => ∃ q, e = .returned q ∧ Rd w' q (ws r) ∧ Below w.heap.size w w') :
    Calls Tryz.prog 224 #[.func (.func g) #[va] #[], vb] w fun e w' => e = .returned (.tuple #[.string (nS r), .int .i64 0]) ∧ Below w.heap.size w w' := by
  have HG := Lib.hid hg
  have HE := Lib.hid hE
  clear hg hE
  go_enter Tryz.func224, Tryz.ntmps224
  go_wp2_with fail
  refine HG.out.mono ?_
  rintro e w1 ⟨q, rfl, hq, hb1⟩
  have hEW := HE.out.below hb1
  obtain ⟨A, c, rfl, h1, h2, h3⟩ := hq
  have hT := Lib.hid (na_text A c r w1 ⟨A, c, rfl, h1, h2, h3⟩ hr hEW)
  clear hEW
  go_wp2_with fail
  refine hT.out.mono ?_
  rintro e w2 ⟨rfl, hb2⟩
  go_wp2_with fail
  refine bodyPost_ret (results_tmp2 rfl _ _ _) rfl ?_
  exact ⟨rfl, hb1.trans (hb2.mono hb1.size)⟩

set_option maxHeartbeats 2000000 in
theorem na_Add (a b : Nat) (w : World) (hE : Env w) (ha : nl a ≤ 40000000) (hb : nl b ≤ 40000000) :
    Calls Tryz.prog 226 #[.string (nS a), .string (nS b)] w fun e w' => e = .returned (.tuple #[.string (nS (a + b)), .int .i64 0]) ∧ Below w.heap.size w w' := by
  have hl := nl_ws (a + b)
  have hl2 := nl_add a b
  have hla := nl_ws a
  have hlb := nl_ws b
  have hBo := Lib.hid (na_both a b w (by omega) (by omega))
  have HE := Lib.hid hE
  clear hE
  go_enter Tryz.func226, Tryz.ntmps226
  go_wp2_with fail
  refine hBo.out.mono ?_
  rintro e w1 ⟨va, vb, rfl, hA, hB, hb1⟩
  have hA' := Lib.hid hA
  have hB' := Lib.hid hB
  have hAp := Lib.hid (na_apply 243 va vb (a + b) w1 (enters_of Tryz.func243 (by kernel_rfl) rfl) (HE.out.below hb1) (by omega) ((na_plus va vb a b w1 hA hB (by omega) (by omega)).mono (by
    rintro e w2 ⟨q, rfl, ho, hb2⟩
    exact ⟨q, rfl, ho.rd, hb2⟩)))
  clear hA hB
  go_wp2_with fail
  refine hAp.out.mono ?_
  rintro e w2 ⟨rfl, hb2⟩
  go_wp2_with fail
  refine bodyPost_ret (results_tmp2 rfl _ _ _) rfl ?_
  exact ⟨rfl, hb1.trans (hb2.mono hb1.size)⟩
set_option maxHeartbeats 2000000 in
theorem na_Mul (a b : Nat) (w : World) (hE : Env w) (ha : nl a ≤ 40000000) (hb : nl b ≤ 40000000) :
    Calls Tryz.prog 195 #[.string (nS a), .string (nS b)] w fun e w' => e = .returned (.tuple #[.string (nS (a * b)), .int .i64 0]) ∧ Below w.heap.size w w' := by
  have hl := nl_ws (a * b)
  have hl2 := nl_mul a b
  have hla := nl_ws a
  have hlb := nl_ws b
  have hBo := Lib.hid (na_both a b w (by omega) (by omega))
  have HE := Lib.hid hE
  clear hE
  go_enter Tryz.func195, Tryz.ntmps195
  go_wp2_with fail
  refine hBo.out.mono ?_
  rintro e w1 ⟨va, vb, rfl, hA, hB, hb1⟩
  have hA' := Lib.hid hA
  have hB' := Lib.hid hB
  have hAp := Lib.hid (na_apply 225 va vb (a * b) w1 (enters_of Tryz.func225 (by kernel_rfl) rfl) (HE.out.below hb1) (by omega) ((na_times va vb a b w1 hA hB (by omega) (by omega)).mono (by
    rintro e w2 ⟨q, rfl, ho, hb2⟩
    exact ⟨q, rfl, ho.rd, hb2⟩)))
  clear hA hB
  go_wp2_with fail
  refine hAp.out.mono ?_
  rintro e w2 ⟨rfl, hb2⟩
  go_wp2_with fail
  refine bodyPost_ret (results_tmp2 rfl _ _ _) rfl ?_
  exact ⟨rfl, hb1.trans (hb2.mono hb1.size)⟩

set_option maxHeartbeats 2000000 in
theorem na_GCD (a b : Nat) (w : World) (hE : Env w) (ha : nl a ≤ 40000000) (hb : nl b ≤ 40000000) :
    Calls Tryz.prog 201 #[.string (nS a), .string (nS b)] w fun e w' => e = .returned (.tuple #[.string (nS (Nat.gcd a b)), .int .i64 0]) ∧ Below w.heap.size w w' := by
  have hl := nl_ws (Nat.gcd a b)
  have hl2 : nl (Nat.gcd a b) ≤ nl a + nl b := by
    by_cases h0 : a = 0
    · subst h0; rw [Nat.gcd_zero_left]; omega
    · have := nl_mono (Nat.gcd_le_left b (Nat.pos_of_ne_zero h0)); omega
  have hla := nl_ws a
  have hlb := nl_ws b
  have hBo := Lib.hid (na_both a b w (by omega) (by omega))
  have HE := Lib.hid hE
  clear hE
  go_enter Tryz.func201, Tryz.ntmps201
  go_wp2_with fail
  refine hBo.out.mono ?_
  rintro e w1 ⟨va, vb, rfl, hA, hB, hb1⟩
  have hA' := Lib.hid hA
  have hB' := Lib.hid hB
  have hAp := Lib.hid (na_apply 229 va vb (Nat.gcd a b) w1 (enters_of Tryz.func229 (by kernel_rfl) rfl) (HE.out.below hb1) (by omega) ((na_gcd va vb a b w1 hA hB (by omega) (by omega)).mono (by
    rintro e w2 ⟨q, rfl, ho, hb2⟩
    exact ⟨q, rfl, ho, hb2⟩)))
  clear hA hB
  go_wp2_with fail
  refine hAp.out.mono ?_
  rintro e w2 ⟨rfl, hb2⟩
  go_wp2_with fail
  refine bodyPost_ret (results_tmp2 rfl _ _ _) rfl ?_
  exact ⟨rfl, hb1.trans (hb2.mono hb1.size)⟩

set_option maxHeartbeats 2000000 in
theorem na_Compare (a b : Nat) (w : World) (ha : nl a ≤ 40000000) (hb : nl b ≤ 40000000) :
    Calls Tryz.prog 227 #[.string (nS a), .string (nS b)] w fun e w' => e = .returned (.tuple #[.int .i64 (cmpI a b), .int .i64 0]) ∧ Below w.heap.size w w' := by
  have hBo := Lib.hid (na_both a b w (by omega) (by omega))
  go_enter Tryz.func227, Tryz.ntmps227
  go_wp2_with fail
  refine hBo.out.mono ?_
  rintro e w1 ⟨va, vb, rfl, hA, hB, hb1⟩
  have hc := na_compare va vb (ws a) (ws b) w1 hA hB (ws_can a) (ws_can b)
  rw [ws_val, ws_val] at hc
  have hC := Lib.hid hc
  clear hA hB hc
  go_wp2_with fail
  refine hC.out.mono ?_
  rintro e w2 ⟨rfl, k, rfl⟩
  go_wp2_with fail
  refine bodyPost_ret (results_tmp2 rfl _ _ _) rfl ?_
  exact ⟨rfl, below_drewN hb1 k⟩

set_option maxHeartbeats 2000000 in
theorem na_Sub (a b : Nat) (w : World) (hE : Env w) (ha : nl a ≤ 40000000) (hb : nl b ≤ 40000000) (hle : b ≤ a) :
    Calls Tryz.prog 228 #[.string (nS a), .string (nS b)] w fun e w' => e = .returned (.tuple #[.string (nS (a - b)), .int .i64 0]) ∧ Below w.heap.size w w' := by
  have hl := nl_ws (a - b)
  have hl2 := nl_mono (Nat.sub_le a b)
  have hla := nl_ws a
  have hlb := nl_ws b
  have hBo := Lib.hid (na_both a b w (by omega) (by omega))
  have HE := Lib.hid hE
  clear hE
  go_enter Tryz.func228, Tryz.ntmps228
  go_wp2_with fail
  refine hBo.out.mono ?_
  rintro e w1 ⟨va, vb, rfl, hA, hB, hb1⟩
  have hA' := Lib.hid hA
  have hB' := Lib.hid hB
  have hc := na_compare va vb (ws a) (ws b) w1 hA hB (ws_can a) (ws_can b)
  rw [ws_val, ws_val] at hc
  have hC := Lib.hid hc
  clear hA hB hc
  have hlt : ¬ cmpI (a : Int) b < 0 := by rw [cmpI_neg]; omega
  have hlt2 : (decide (cmpI (a : Int) b < 0)) = false := decide_eq_false hlt
  go_wp2_with fail
  refine hC.out.mono ?_
  rintro e w2 ⟨rfl, k, rfl⟩
  have hb2 : Below w1.heap.size w1 (w1.drewN k) := below_drewN (Below.refl _ _) k
  generalize w1.drewN k = w2 at *
  have hAp := Lib.hid (na_apply 245 va vb (a - b) w2 (enters_of Tryz.func245 (by kernel_rfl) rfl) ((HE.out.below hb1).below hb2) (by omega) ((na_minus va vb a b w2 (hA'.out.below hb2) (hB'.out.below hb2) (by omega) (by omega) hle).mono (by
    rintro e w2 ⟨q, rfl, ho, hb2⟩
    exact ⟨q, rfl, ho.rd, hb2⟩)))
  go_wp2_with fail
  refine hAp.out.mono ?_
  rintro e w3 ⟨rfl, hb3⟩
  go_wp2_with fail
  refine bodyPost_ret (results_tmp2 rfl _ _ _) rfl ?_
  exact ⟨rfl, hb1.trans ((hb2.trans (hb3.mono hb2.size)).mono hb1.size)⟩

set_option maxHeartbeats 2000000 in
theorem na_DivMod (a b : Nat) (w : World) (hE : Env w) (ha : nl a ≤ 40000000) (hb : nl b ≤ 40000000) (h0 : 0 < b) :
    Calls Tryz.prog 282 #[.string (nS a), .string (nS b)] w fun e w' => e = .returned (.tuple #[.string (nS (a / b)), .string (nS (a % b)), .int .i64 0]) ∧ Below w.heap.size w w' := by
  have hlq := nl_ws (a / b)
  have hlr := nl_ws (a % b)
  have hl2 := nl_mono (Nat.div_le_self a b)
  have hl3 := nl_mono (Nat.le_of_lt (Nat.mod_lt a h0))
  have hla := nl_ws a
  have hlb := nl_ws b
  have hlp := ws_len_pos.2 h0
  have hBo := Lib.hid (na_both a b w (by omega) (by omega))
  have HE := Lib.hid hE
  clear hE
  go_enter Tryz.func282, Tryz.ntmps282
  go_wp2_with fail
  refine hBo.out.mono ?_
  rintro e w1 ⟨va, vb, rfl, hA, hB, hb1⟩
  have hD := Lib.hid (na_divide va vb a b w1 hA hB h0 (by omega) (by omega))
  obtain ⟨B, cb, rfl, hB1, hB2, hB3⟩ := hB
  clear hA hB3
  have d0 : (((ws b).length : Int) == 0) = false := by rw [beq_eq_false_iff_ne]; omega
  go_wp2_with fail
  refine hD.out.mono ?_
  rintro e w2 ⟨q, r, rfl, hq, hr, hb2⟩
  have hEW := (HE.out.below hb1).below hb2
  obtain ⟨Q, cq, rfl, q1, q2, q3⟩ := hq
  obtain ⟨R, cr, rfl, r1, r2, r3⟩ := hr
  have hT := Lib.hid (na_text Q cq _ w2 ⟨Q, cq, rfl, q1, q2, q3⟩ (by omega) hEW)
  have hRd := Lib.hid (show Rd w2 _ _ from ⟨R, cr, rfl, r1, r2, r3⟩)
  have hEW2 := Lib.hid hEW
  clear hEW q3 r3
  go_wp2_with fail
  refine hT.out.mono ?_
  rintro e w3 ⟨rfl, hb3⟩
  have hT2 := Lib.hid (na_text R cr _ w3 (hRd.out.below hb3) (by omega) (hEW2.out.below hb3))
  go_wp2_with fail
  refine hT2.out.mono ?_
  rintro e w4 ⟨rfl, hb4⟩
  go_wp2_with fail
  refine bodyPost_ret (results_tmp3 rfl _ _ _) rfl ?_
  exact ⟨rfl, hb1.trans ((hb2.trans ((hb3.trans (hb4.mono hb3.size)).mono hb2.size)).mono hb1.size)⟩
end Go.Proofs.YthkkdepppjiaeaaGreatDoor
