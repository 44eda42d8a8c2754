/- A PART OF THE PROOF, JOINED OUT OF 4 TEXTS. -/
import Derived.Test.YthkkdepppjiaeaaGreatDoorPdNat
import Derived.Test.YthkkdepppjiaeaaGreatDoorShelf
import Derived.Shelf.Strings.Builder1
import Derived.Shelf.Strings.BuilderF
import Derived.Shelf.Strings.BuilderK
import Derived.Lib.SmallJoins
import Derived.Lib.ItoaMem
import Derived.Shelf.Strconv.Itoa3
/- Walks of the program's package natural: divide at all, gcd. -/
namespace Go.Proofs.YthkkdepppjiaeaaGreatDoor
open Go.RowKit

theorem na_divide (va vb : Value) (n m : Nat) (w : World) (hA : Rd w va (ws n)) (hB : Rd w vb (ws m)) (hm : 0 < m) (hl : (ws n).length ≤ 300000000) (hlm : (ws m).length ≤ 300000000) :
    Calls Tryz.prog 248 #[va, vb] w (DivPost n m w) := by
  by_cases h1 : n < m
  · exact na_divide_less va vb n m w hA hB h1
  · by_cases h2 : (ws n).length ≤ 2
    · exact na_divide_small va vb n m w hA hB (by omega) hm h2
    · by_cases h3 : (ws m).length = 1
      · exact na_divide_one va vb n m w hA hB (by omega) (by omega) h2 h3
      · exact na_divide_long va vb n m w hA hB (by omega) hl h2 (by
          have : (ws m).length ≠ 0 := fun e => by have := ws_nil_iff.1 (List.eq_nil_of_length_eq_zero e); omega
          omega)

theorem ws_len_mod {n m : Nat} (hm : 0 < m) : (ws (n % m)).length ≤ (ws m).length :=
  (ws_can _).len_le (ws_can _) (by rw [ws_val, ws_val]; have := Nat.mod_lt n hm; omega)
theorem ws_len_pos {m : Nat} : 0 < (ws m).length ↔ 0 < m := by
  constructor
  · intro h
    rcases Nat.eq_zero_or_pos m with rfl | h0
    · rw [ws_zero] at h; simp at h
    · exact h0
  · intro h
    rcases Nat.eq_zero_or_pos (ws m).length with e | e
    · have := ws_nil_iff.1 (List.eq_nil_of_length_eq_zero e); omega
    · exact e

theorem gcd_step {a b : Nat} : Nat.gcd b (a % b) = Nat.gcd a b := by rw [Nat.gcd_comm b, ← Nat.gcd_rec, Nat.gcd_comm]

set_option maxRecDepth 100000 in
set_option maxHeartbeats 4000000 in
theorem na_gcd (va vb : Value) (n m : Nat) (w : World) (hA : Rd w va (ws n)) (hB : Rd w vb (ws m)) (hl : (ws n).length ≤ 300000000) (hlm : (ws m).length ≤ 300000000) :
    Calls Tryz.prog 229 #[va, vb] w fun e w' => ∃ v, e = .returned v ∧ Rd w' v (ws (Nat.gcd n m)) ∧ Below w.heap.size w w' := by
  have RA := Lib.hid hA
  have RB := Lib.hid hB
  have HL := Lib.hid hl
  have HM := Lib.hid hlm
  clear hA hB hl hlm
  go_enter Tryz.func229, Tryz.ntmps229
  go_wp2
  go_loopg [0, 1] m (fun k v0 v1 wr => ∃ a : Nat, Hid (Rd wr v0 (ws a)) ∧ Hid (Rd wr v1 (ws k)) ∧ Hid (Nat.gcd a k = Nat.gcd n m) ∧ Hid ((ws a).length ≤ 300000000) ∧ Hid ((ws k).length ≤ 300000000) ∧ Below w.heap.size w wr)
  case atStart => exact ⟨n, RA, RB, Lib.hid rfl, HL, HM, Below.refl _ _⟩
  case round =>
    obtain ⟨a, HA, HB, HG, La, Lb, hBr⟩ := hrel
    obtain ⟨B, d, e1, b1, b2, -⟩ := HB.out
    unfold maxLen at b2
    by_cases h0 : gk = 0
    · subst h0
      rw [ws_zero] at e1
      subst e1
      have HF := HA.out
      rw [show a = Nat.gcd n m by rw [← HG.out, Nat.gcd_zero_right]] at HF
      have HF := Lib.hid HF
      go_wp2
      go_ret
      exact ⟨_, rfl, HF.out, hBr⟩
    · have hk : 0 < gk := by omega
      have hlp := ws_len_pos.2 hk
      have Lk := Lb.out
      subst e1
      have S1 := na_smallB _ a wr HA.out (by have := La.out; omega)
      have S1 := Lib.hid S1
      have S2 := fun W hW => Lib.hid (na_smallB (.slice B (ws gk).length d) gk W hW (by omega))
      have S2 := Lib.hid S2
      by_cases hs : (ws a).length ≤ 2 ∧ (ws gk).length ≤ 2
      · have hs1 := hs.1
        have hs2 := hs.2
        have HS1 := Lib.hid hs1
        have HS2 := Lib.hid hs2
        have ba := ws_small hs1
        have bk := ws_small hs2
        simp only [if_pos hs1, if_pos hs2, decide_eq_true hs1, decide_eq_true hs2] at S1 S2
        clear hs hs1 hs2
        go_wp2_with fail
        refine S1.out.mono ?_
        rintro e w1 ⟨rfl, hb1⟩
        go_wp2_with fail
        refine ((S2.out _ (HB.out.below hb1)).out).mono ?_
        rintro e w2 ⟨rfl, hb2⟩
        have hb2' := below_seq (below_seq hBr hb1) hb2
        clear S1 S2 hb1
        go_wp2
        clear HA HB La Lb hb2 S1 S2
        go_loopg [5, 7] gk (fun k x y wr => ∃ p : Nat, x = .int .u64 p ∧ y = .int .u64 k ∧ p < 1000000000000000000 ∧ k < 1000000000000000000 ∧ Hid (Nat.gcd p k = Nat.gcd n m) ∧ Below w.heap.size w wr)
        case atStart => exact ⟨a, rfl, rfl, ba, bk, HG, hb2'⟩
        case round =>
          obtain ⟨p, rfl, rfl, hp, hgk2, HG2, hBr2⟩ := hrel
          by_cases h2 : gk = 0
          · subst h2
            have HP : Hid (p = Nat.gcd n m) := Lib.hid (by rw [← HG2.out, Nat.gcd_zero_right])
            go_wp2_with fail
            refine (na_of p _ (by omega) (by omega)).mono ?_
            rintro e w3 ⟨v, rfl, hv, hb3⟩
            rw [Int.toNat_natCast, HP.out] at hv
            have HV := Lib.hid hv.rd
            clear hv
            go_wp2
            go_ret
            exact ⟨_, rfl, HV.out, below_seq hBr2 hb3⟩
          · have e1 : ((gk : Int) != 0) = true := by rw [bne_iff_ne]; omega
            have hpos : 0 < gk := by omega
            have hml := Nat.mod_lt p hpos
            have HM : Hid ((p : Int) % gk = (p % gk : Nat)) := Lib.hid (by simp)
            have HG3 : Hid (Nat.gcd gk (p % gk) = Nat.gcd n m) := Lib.hid (by rw [gcd_step]; exact HG2.out)
            go_wp2
            go_quiet (fail)
            go_wp2
            rw [HM.out]
            go_roundg (p % gk)
            case measure => exact hml
            case rel => exact ⟨gk, rfl, rfl, hgk2, by omega, HG3, below_drewN hBr2 _⟩
      · have S1' : Hid (∃ x1 b1 x2 b2, (b1 && b2) = false ∧ (Calls Tryz.prog 246 #[u0] wr fun e w' => e = .returned (.tuple #[.int .u64 x1, .bool b1]) ∧ Below wr.heap.size wr w') ∧
            ∀ W, Rd W (.slice B (ws gk).length d) (ws gk) → Hid (Calls Tryz.prog 246 #[.slice B (ws gk).length d] W fun e w' => e = .returned (.tuple #[.int .u64 x2, .bool b2]) ∧ Below W.heap.size W w')) :=
          Lib.hid ⟨_, _, _, _, by
            rw [← Bool.not_eq_true, Bool.and_eq_true, decide_eq_true_eq, decide_eq_true_eq]; exact hs, S1.out, S2.out⟩
        obtain ⟨x1, c1, x2, c2, hcc, T1, T2⟩ := S1'.out
        have T1 := Lib.hid T1
        have T2 := Lib.hid T2
        have HDv := fun W h1 h2 => Lib.hid (na_divide u0 (.slice B (ws gk).length d) a gk W h1 h2 hk La.out Lb.out)
        have HDv := Lib.hid HDv
        have hmodl := ws_len_mod (n := a) hk
        have Lr : Hid ((ws (a % gk)).length ≤ 300000000) := Lib.hid (by omega)
        have HG3 : Hid (Nat.gcd gk (a % gk) = Nat.gcd n m) := Lib.hid (by rw [gcd_step]; exact HG.out)
        have hlt := Nat.mod_lt a hk
        have HCC := Lib.hid hcc
        clear S1 S2 S1' hs hcc hmodl
        cases c1 with
        | true =>
          obtain rfl : c2 = false := by have := HCC.out; simpa using this
          go_wp2_with fail
          refine T1.out.mono ?_
          rintro e w1 ⟨rfl, hb1⟩
          go_wp2_with fail
          refine ((T2.out _ (HB.out.below hb1)).out).mono ?_
          rintro e w2 ⟨rfl, hb2⟩
          have hb2' := below_seq hb1 hb2
          go_wp2_with fail
          refine ((HDv.out _ (HA.out.below hb2') (HB.out.below hb2')).out).mono ?_
          rintro e w3 ⟨q, r, rfl, hq, hr, hb3⟩
          have HR := Lib.hid hr
          have HB3 := Lib.hid (HB.out.below (below_seq hb2' hb3))
          have hb3' := below_seq (below_seq hBr hb2') hb3
          clear hq hr T1 T2 HDv
          go_wp2
          go_roundg (a % gk)
          case measure => exact hlt
          case rel => exact ⟨gk, HB3, HR, HG3, Lb, Lr, hb3'⟩
        | false =>
          go_wp2_with fail
          refine T1.out.mono ?_
          rintro e w1 ⟨rfl, hb1⟩
          go_wp2_with fail
          refine ((T2.out _ (HB.out.below hb1)).out).mono ?_
          rintro e w2 ⟨rfl, hb2⟩
          have hb2' := below_seq hb1 hb2
          go_wp2_with fail
          refine ((HDv.out _ (HA.out.below hb2') (HB.out.below hb2')).out).mono ?_
          rintro e w3 ⟨q, r, rfl, hq, hr, hb3⟩
          have HR := Lib.hid hr
          have HB3 := Lib.hid (HB.out.below (below_seq hb2' hb3))
          have hb3' := below_seq (below_seq hBr hb2') hb3
          clear hq hr T1 T2 HDv
          go_wp2
          go_roundg (a % gk)
          case measure => exact hlt
          case rel => exact ⟨gk, HB3, HR, HG3, Lb, Lr, hb3'⟩
end Go.Proofs.YthkkdepppjiaeaaGreatDoor

/- The library's Builder, laid by hand where the one command did not (a type that its bodies do not name). -/
namespace Go.Proofs
open Go.Shelf Go.RowKit

def Tryz.lays240_ren : Go.Shelf.Ren := ⟨fun | 240 => 132 | 276 => 157 | n => n, fun | 0 => 0 | 4 => 4 | 9 => 9 | 20 => 20 | 70 => 145 | 72 => 148 | 164 => 218 | 5 => 5 | 37 => 146 | 80 => 156 | n => n, fun | n => n⟩
theorem Tryz.lays240 : Go.Proofs.Lays.n240 Tryz.prog Tryz.lays240_ren := {
  mixed := by kernel_rfl
  f240 := Tryz.func132.trans (congrArg some (by kernel_rfl))
  f276 := Tryz.func157.trans (congrArg some (by kernel_rfl))
  t0 := Tryz.underlying0
  a0 := Tryz.isAgg0
  z0 := Tryz.sizeOf0
  v0 := Tryz.zeroValue0
  t4 := Tryz.underlying4
  a4 := Tryz.isAgg4
  z4 := Tryz.sizeOf4
  v4 := Tryz.zeroValue4
  t9 := Tryz.underlying9
  a9 := Tryz.isAgg9
  z9 := Tryz.sizeOf9
  v9 := Tryz.zeroValue9
  t20 := Tryz.underlying20
  a20 := Tryz.isAgg20
  z20 := Tryz.sizeOf20
  v20 := Tryz.zeroValue20
  t70 := Tryz.underlying145
  a70 := Tryz.isAgg145
  z70 := Tryz.sizeOf145
  v70 := Tryz.zeroValue145
  t72 := Tryz.underlying148
  a72 := Tryz.isAgg148
  z72 := Tryz.sizeOf148
  v72 := Tryz.zeroValue148
  t164 := Tryz.underlying218
  a164 := Tryz.isAgg218
  z164 := Tryz.sizeOf218
  v164 := Tryz.zeroValue218 }
def Tryz.lays166_ren : Go.Shelf.Ren := ⟨fun | 166 => 89 | 240 => 132 | 276 => 157 | n => n, fun | 0 => 0 | 3 => 3 | 4 => 4 | 9 => 9 | 20 => 20 | 37 => 146 | 70 => 145 | 72 => 148 | 75 => 150 | 164 => 218 | 5 => 5 | 80 => 156 | n => n, fun | n => n⟩
theorem Tryz.lays166 : Go.Proofs.Lays.n166 Tryz.prog Tryz.lays166_ren := {
  mixed := by kernel_rfl
  f166 := Tryz.func89.trans (congrArg some (by kernel_rfl))
  f240 := Tryz.func132.trans (congrArg some (by kernel_rfl))
  f276 := Tryz.func157.trans (congrArg some (by kernel_rfl))
  t0 := Tryz.underlying0
  a0 := Tryz.isAgg0
  z0 := Tryz.sizeOf0
  v0 := Tryz.zeroValue0
  t3 := Tryz.underlying3
  a3 := Tryz.isAgg3
  z3 := Tryz.sizeOf3
  v3 := Tryz.zeroValue3
  t4 := Tryz.underlying4
  a4 := Tryz.isAgg4
  z4 := Tryz.sizeOf4
  v4 := Tryz.zeroValue4
  t9 := Tryz.underlying9
  a9 := Tryz.isAgg9
  z9 := Tryz.sizeOf9
  v9 := Tryz.zeroValue9
  t20 := Tryz.underlying20
  a20 := Tryz.isAgg20
  z20 := Tryz.sizeOf20
  v20 := Tryz.zeroValue20
  t37 := Tryz.underlying146
  a37 := Tryz.isAgg146
  z37 := Tryz.sizeOf146
  v37 := Tryz.zeroValue146
  t70 := Tryz.underlying145
  a70 := Tryz.isAgg145
  z70 := Tryz.sizeOf145
  v70 := Tryz.zeroValue145
  t72 := Tryz.underlying148
  a72 := Tryz.isAgg148
  z72 := Tryz.sizeOf148
  v72 := Tryz.zeroValue148
  t75 := Tryz.underlying150
  a75 := Tryz.isAgg150
  z75 := Tryz.sizeOf150
  v75 := Tryz.zeroValue150
  t164 := Tryz.underlying218
  a164 := Tryz.isAgg218
  z164 := Tryz.sizeOf218
  v164 := Tryz.zeroValue218 }
theorem Tryz.Builder_X72_240 : Builder.X72 Tryz.prog Tryz.lays240_ren where
  sizeBuilder := by kernel_rfl
  liesBuilder := by kernel_rfl
theorem Tryz.Builder_Extra_166 : Builder.Extra Tryz.prog Tryz.lays166_ren where
  sizeBuilder := by kernel_rfl
  liesBuilder := by kernel_rfl
  t5 := Tryz.underlying5
  a5 := Tryz.isAgg5
  z5 := Tryz.sizeOf5
  v5 := Tryz.zeroValue5
  infoByte := by kernel_rfl
  cellsByte := by kernel_rfl
  sizeByte := by kernel_rfl
  neB5 := by decide
theorem Tryz.Builder_WriteString (B b : Nat) (bs : List Value) (s : ByteArray) (w : World) (h : Lib.IsBuilder 148 5 B b bs w) (hlen : bs.length + s.size ≤ 140737488355328) (hBw : B ≤ w.heap.size) :
    Calls Tryz.prog 89 #[.pointer (some ⟨b, 0, none⟩), .string s] w fun e w' => e = .returned (.tuple #[.int .i64 s.size, .nilIface]) ∧ (Lib.BuilderAt 148 5 B b (.pointer (some ⟨b, 0, none⟩)) (bs ++ Lib.strCells s) w' ∧ Below B w w') := Any.Builder_WriteString Tryz.lays166 Tryz.Builder_Extra_166 B b bs s w h hlen hBw
theorem Tryz.Builder_WriteString_k (B b : Nat) (bs : List Value) (s : ByteArray) (w : World) (h : Lib.IsBuilderF 148 5 B b bs w) (hlen : bs.length + s.size ≤ 140737488355328) (hBw : B ≤ w.heap.size) :
    Calls Tryz.prog 89 #[.pointer (some ⟨b, 0, none⟩), .string s] w fun e w' => e = .returned (.tuple #[.int .i64 s.size, .nilIface]) ∧ (Lib.BuilderAtF 148 5 B b (.pointer (some ⟨b, 0, none⟩)) (bs ++ Lib.strCells s) w' ∧ Below B w w' ∧ Lib.OthersKept 5 (some b) w w') := Any.Builder_WriteString_k Tryz.lays166 Tryz.Builder_Extra_166 B b bs s w h hlen hBw
end Go.Proofs

/- Walks of the program's package natural: read. -/
namespace Go.Proofs.YthkkdepppjiaeaaGreatDoor
open Go.RowKit

theorem read_chunk {s : ByteArray} {c k : Nat} (hk : k ≤ s.size) (hc : c < k) (h9 : k - c ≤ 9) (hd : ∀ x ∈ s.data.toList, isDig x) :
    ((s.extract 0 k).extract c k = s.extract c k ∧ Lib.parseUintB 32 (s.extract c k).data.toList = .ok (dval (s.extract c k).data.toList)) ∧
      dval (s.extract c k).data.toList < 1000000000 ∧ (s.data.toList.take k = s.data.toList.take c ++ (s.extract c k).data.toList ∧ dval (s.extract c k).data.toList < 10 ^ (k - c) ∧ (s.extract c k).data.toList.length = k - c) := by
  have hl : (s.extract c k).data.toList = (s.data.toList.take k).drop c := by
    rw [Lib.extract_data, List.drop_take]
  have hlen : (s.extract c k).data.toList.length = k - c := by rw [hl]; simp; omega
  have hdg : ∀ x ∈ (s.extract c k).data.toList, isDig x := fun x hx => by
    rw [hl] at hx
    exact hd x (List.mem_of_mem_take (List.mem_of_mem_drop hx))
  have hlt := dval_lt _ hdg
  rw [hlen] at hlt
  have h9' : 10 ^ (k - c) ≤ 10 ^ 9 := Nat.pow_le_pow_right (by decide) h9
  refine ⟨⟨?_, parse9 _ (by intro e; rw [e] at hlen; simp at hlen; omega) hdg (by omega)⟩, by omega, ?_, hlt, hlen⟩
  · rw [ByteArray.extract_extract]
    congr 1 <;> omega
  · rw [hl]
    conv => lhs; rw [← List.take_append_drop c (s.data.toList.take k)]
    rw [List.take_take, Nat.min_eq_left (by omega)]

theorem bpow_ten (k : Nat) : bpow k = ((10 ^ (9 * k) : Nat) : Int) := by
  induction k with
  | zero => rfl
  | succ k ih =>
    rw [bpow_succ, ih, show 9 * (k + 1) = 9 * k + 9 by omega, Nat.pow_add]
    simp; grind

/-- One round of read: a chunk of nine digits (fewer at the end) is a word. -/
theorem read_step {s : ByteArray} {c k : Nat} {o : List Int} (hO : WOk o) (hV : (dval s.data.toList : Int) = dval (s.data.toList.take k) * bpow o.length + wval o)
    (hP : s.data.toList.take k = s.data.toList.take c ++ (s.extract c k).data.toList ∧ dval (s.extract c k).data.toList < 10 ^ (k - c) ∧ (s.extract c k).data.toList.length = k - c) (h9 : k - c = 9 ∨ c = 0) (hlt : dval (s.extract c k).data.toList < 1000000000) :
    WOk (o ++ [(dval (s.extract c k).data.toList : Int)]) ∧ (dval s.data.toList : Int) = dval (s.data.toList.take c) * bpow (o ++ [(dval (s.extract c k).data.toList : Int)]).length + wval (o ++ [(dval (s.extract c k).data.toList : Int)]) := by
  refine ⟨hO.append (fun x hx => by rw [List.mem_singleton] at hx; subst hx; omega), ?_⟩
  have e : (dval (s.data.toList.take k) : Int) = dval (s.data.toList.take c) * 1000000000 + dval (s.extract c k).data.toList := by
    rw [hP.1, dval_append, hP.2.2]
    rcases h9 with h9 | rfl
    · rw [h9]; simp
    · simp [dval_nil]
  rw [hV, e, wval_snoc, List.length_append, List.length_singleton, bpow_succ]
  grind

set_option maxHeartbeats 2000000 in
theorem na_read (s : ByteArray) (w : World) (hs : s.size ≤ 1000000000) (hd : ∀ c ∈ s.data.toList, isDig c) :
    Calls Tryz.prog 240 #[.string s] w fun e w' => ∃ v, e = .returned v ∧ Own w' w.heap.size v (ws (dval s.data.toList)) ∧ Below w.heap.size w w' := by
  have HDg := Lib.hid hd
  obtain ⟨i0, hi, hz0, hz1, hz2⟩ := info_parts inf32
  have HI := Lib.hid (And.intro hi (And.intro hz0 (And.intro hz1 hz2)))
  clear hd hi hz0 hz1 hz2
  go_enter Tryz.func240, Tryz.ntmps240
  go_wp2
  go_loopw [0, 3] (fun a v wr => ∃ (k : Nat) (o : List Int), k ≤ s.size ∧ a = .string (s.extract 0 k) ∧ Hid (WOk o) ∧ Hid ((dval s.data.toList : Int) = dval (s.data.toList.take k) * bpow o.length + wval o) ∧ Hid (Own wr w.heap.size v o) ∧ o.length ≤ s.size - k ∧ Below w.heap.size w wr) (fun a _ _ => match a with | .string t => t.size | _ => 0)
  case atStart => exact ⟨s.size, [], Nat.le_refl _, by simp, Lib.hid WOk.nil, Lib.hid (by rw [List.take_of_length_le (by simp)]; simp [bpow_zero, wval]), Lib.hid (World.ownsRow_nil _ _ _ _), by simp, Below.refl _ _⟩
  case round =>
    obtain ⟨k, o, hk, rfl, HO, HV, HW, hol, hBr⟩ := hrel
    have hsz : (s.extract 0 k).size = k := by simp; omega
    by_cases h0 : 0 < k
    · have HSZ := Lib.hid hsz
      have hp : 0 < (s.extract 0 k).size := by omega
      have hp2 : (s.extract 0 k).size ≤ 1000000000 := by omega
      clear hsz
      obtain ⟨c, hc⟩ : ∃ c, c = k - 9 := ⟨_, rfl⟩
      have hm : (max ((k : Int) - 9) 0) = (c : Int) := by omega
      have hck : c < k := by omega
      have hc9 : k - c ≤ 9 := by omega
      have HM := Lib.hid hm
      have HP := Lib.hid (read_chunk hk hck hc9 HDg.out)
      have HNx := Lib.hid (read_step HO.out HV.out HP.out.2.2 (by omega) HP.out.2.1)
      have hu := HP.out.2.1
      clear hm hc
      go_wp2_with fail
      rw [HM.out, Int.toNat_natCast, HP.out.1.1]
      refine (Tryz.strconv_ParseUint_10_at32_ok (s.extract c k) (by simp; omega) _ HP.out.1.2 wr).mono ?_
      rintro e w1 ⟨rfl, hw1⟩
      have hb1 : Below wr.heap.size wr w1 := by
        rcases hw1 with rfl | rfl
        · exact Below.refl _ _
        · exact Joins.below_bytesWorld _ _ _ _ (Nat.le_refl _)
      clear hw1
      have hBr1 := hBr.trans (hb1.mono hBr.size)
      have HW1 := Lib.hid (HW.out.below hb1)
      have hsz1 := hBr1.size
      generalize dval (s.extract c k).data.toList = x at *
      go_wp2_with (at_builtin; refine wpList_append_own _ rfl (.tmp 21) (.tmp 24) 274 rfl w.heap.size 101 i0 (.int .u32 0) 1 4 Tryz.underlying274 HI.out.1 HI.out.2.1 HI.out.2.2.1 HI.out.2.2.2 rfl (by decide) _ _ _ rfl (World.ownsRow.alloc HW1.out _) ⟨w1.heap.size, 0, none⟩ 1 1 _ rfl rfl (one_cell _ _ _) (fun u hu => by rw [List.mem_singleton] at hu; subst hu; rfl) (by unfold maxLen; omega) (by omega) (by simp; omega) ?_; intro v' w2 hown hgrow _)
      obtain ⟨hO, hB2⟩ := Own.app HW1.out hBr1 hsz1 hown hgrow
      have hx : (x : Int) % 4294967296 = x := Int.emod_eq_of_lt (by omega) (by omega)
      have e2 : (s.extract 0 k).extract 0 c = s.extract 0 c := by
        rw [ByteArray.extract_extract]; congr 1; omega
      rw [e2]
      refine ⟨⟨c, o ++ [(x : Int)], by omega, rfl, Lib.hid HNx.out.1, Lib.hid HNx.out.2, Lib.hid hO, by simp; omega, hB2⟩, ?_⟩
      show (s.extract 0 c).size < (s.extract 0 k).size
      simp
      omega
    · obtain rfl : k = 0 := by omega
      have e0 : s.extract 0 0 = ByteArray.empty := by simp
      rw [e0]
      have hv : wval o = dval s.data.toList := by
        have := HV.out
        simp [dval_nil] at this
        omega
      have HT : Hid (trimL o = ws (dval s.data.toList)) := Lib.hid (ws_trim HO.out hv)
      obtain ⟨A', c', rfl, e2, e3, e4⟩ := HW.out.rd
      have ht := na_trim A' c' o wr e2 e3 e4
      have hq := HW.out.trim
      rw [HT.out] at ht hq
      have HTt := Lib.hid ht
      have HQ := Lib.hid hq
      clear ht hq e4 hsz hv
      go_wp2_with fail
      refine HTt.out.mono ?_
      rintro e w' ⟨rfl, rfl⟩
      go_wp2
      go_ret
      exact ⟨_, rfl, HQ.out, hBr⟩
end Go.Proofs.YthkkdepppjiaeaaGreatDoor

/- The environment (the library's table), and strconv.FormatUint to the base 10. -/
namespace Go.Proofs.YthkkdepppjiaeaaGreatDoor
open Go.RowKit Go.Shelf Go.Sort Go.Lib

/-- What the library reads: its table of the powers of ten; the shape of the package-level variables. -/
structure Env (w : World) : Prop where
  tab : Lib.TabIs Tryz.prog w "internal/strconv.uint64pow10" .u64 Lib.pow10Tab
  shape : w.ShapedOpen Tryz.prog

theorem tabIs_below {n : String} {g : Nat} {k : IntKind} {zs : List Int} {w w' : World} (hg : Tryz.prog.globalNamed n = some g) (h : Lib.TabIs Tryz.prog w n k zs) (hb : Below w.heap.size w w') : Lib.TabIs Tryz.prog w' n k zs := by
  unfold Lib.TabIs World.var? at h ⊢
  rw [hg] at h ⊢
  simp only [Option.bind_some] at h ⊢
  have hlt : g < w.heap.size := by
    rcases Nat.lt_or_ge g w.heap.size with h' | h'
    · exact h'
    · rw [Array.getElem?_eq_none h'] at h; cases h
  rw [hb.block g hlt]
  exact h
theorem Env.below {w w' : World} (h : Env w) (hb : Below w.heap.size w w') : Env w' :=
  ⟨tabIs_below (g := 0) (by kernel_rfl) h.tab hb, h.shape.keptBut (hb.frame (fun _ => False)) (fun p hp => hp.elim)⟩

theorem below_grow (w : World) (k : Nat) (os : Array Obj) : Below w.heap.size w (grow (w.drewN k) os) := by
  refine ⟨rfl, rfl, rfl, ?_, fun i hi => ?_⟩
  · show w.heap.size ≤ (w.heap ++ os).size
    rw [Array.size_append]; omega
  · show (w.heap ++ os)[i]? = w.heap[i]?
    rw [Array.getElem?_append_left hi]

theorem holds_zero0 (w : World) (T : TypeId) (nd : Nat) (hs : nd ≤ 24) : Holds (fun (b : UInt8) => Value.int .u8 (b.toNat : Int)) (w.alloc (.cells zeros24 T)) w.heap.size 0 (Array.replicate nd (0 : UInt8)) := fun j hj => by
  have hj' : j < nd := by simpa using hj
  refine ⟨?_, World.frozen?_alloc_new _ _ _ _⟩
  rw [World.cell?_alloc_new, zeros24_at _ (by omega), getElem!_pos _ j hj]
  simp
theorem fin_pos0 (w : World) (o : Obj) (dk : Array UInt8) (k : Nat) : ∃ os, (putRow (fun (b : UInt8) => Value.int .u8 (b.toNat : Int)) (w.alloc o) w.heap.size 0 dk).drewN k = grow (w.drewN k) os := by
  rw [alloc_eq_grow]
  obtain ⟨os', _, e⟩ := putRow_grow_new (fun (b : UInt8) => Value.int .u8 (b.toNat : Int)) w #[o] w.heap.size 0 dk (Nat.le_refl _)
  exact ⟨os', by rw [e]; rfl⟩

set_option maxRecDepth 100000 in
set_option maxHeartbeats 4000000 in
theorem fmt_uint_in (u : Nat) (w : World) (hu : u < 1000000000) (hE : Env w) :
    Calls Tryz.prog 272 #[.int .u64 u, .int .i64 10] w fun e w' => e = .returned (.string ⟨(Lib.decDigits u).toArray⟩) ∧ Below w.heap.size w w' := by
  have htab := hE.tab
  clear hE
  by_cases hs : u < 100
  · have HS := fun W => Tryz.internal_strconv_small u hs W
    have HS := Lib.hid HS
    clear htab
    go_enter Tryz.func272, Tryz.ntmps272
    go_wp2_with (go_at_call 182; refine (HS.out _).mono ?_; rintro e w' ⟨rfl, rfl⟩)
    go_ret
    exact ⟨rfl, Below.refl _ _⟩
  · have hu1 : 1 ≤ u := by omega
    have hu64 : u < 18446744073709551616 := by omega
    have hnd20 : Lib.nDigits u ≤ 9 := nDigits_le (by decide) (by simpa using hu)
    have hH0 := holds_zero0 w 233 (Lib.nDigits u) (by omega)
    have hfmt := Tryz.internal_strconv_formatBase10 w.heap.size 0 24 u (Array.replicate (Lib.nDigits u) 0) (w.alloc (.cells Lib.zeros24 233)) hH0 (by rw [Array.size_replicate]; exact Lib.lt_pow_nDigits u) hu64 (by rw [Array.size_replicate]; omega)
    rw [Array.size_replicate] at hfmt
    have HH0 := Lib.hid hH0
    have HFm := Lib.hid hfmt
    have HND := fun W hW => Tryz.internal_strconv_numDigits u hu1 hu64 W hW
    have HND := Lib.hid HND
    have HT := Lib.hid htab
    clear hH0 hfmt htab
    have hal : Tryz.prog.arrayLen 233 = 24 := by kernel_rfl
    have hsl : ∀ W, (Instr.sliceAt 233 (.pointer (some ⟨w.heap.size, 0, none⟩)) none (some (.int .i64 (Lib.nDigits u : Int))) none).run Tryz.prog W = .ok (.slice (some ⟨w.heap.size, 0, none⟩) (Lib.nDigits u) 24) W := fun W => by
      rw [run_sliceAt_array_h W 233 ⟨w.heap.size, 0, none⟩ Tryz.underlying233 .i64 (Lib.nDigits u : Int) (by omega) (by rw [hal]; omega), hal]
      go_simp
    clear hal
    go_enter Tryz.func272, Tryz.ntmps272
    go_wp2_with fail
    refine (HND.out _ (Lib.tabIs_alloc HT.out _)).mono ?_
    rintro e w1 ⟨rfl, rfl⟩
    go_wp2_with fail
    refine HFm.out.mono ?_
    rintro e w' ⟨rfl, k, v', dk, rfl, hF⟩
    have hcv : (convert 146 9 (.slice (some ⟨w.heap.size, 0, none⟩) (Lib.nDigits u) 24)).run Tryz.prog ((putRow (fun (b : UInt8) => Value.int .u8 (b.toNat : Int)) (w.alloc (.cells Lib.zeros24 233)) w.heap.size 0 dk).drewN k) = .ok (.string ⟨(Lib.decDigits u).toArray⟩) ((putRow (fun (b : UInt8) => Value.int .u8 (b.toNat : Int)) (w.alloc (.cells Lib.zeros24 233)) w.heap.size 0 dk).drewN k) := by
      have h := run_convert_bytes_back (P := Tryz.prog) ((putRow (fun (b : UInt8) => Value.int .u8 (b.toNat : Int)) (w.alloc (.cells Lib.zeros24 233)) w.heap.size 0 dk).drewN k) 146 9 5 ⟨w.heap.size, 0, none⟩ 24 (Lib.decDigits u) Tryz.underlying146 Tryz.underlying5 Tryz.underlying9 (fun j hj => by
        rw [Lib.row_is_numeral hF j hj, Lib.add_plain, World.cell?_drewN]
        exact cell?_putRow (fun (b : UInt8) => Value.int .u8 (b.toNat : Int)) _ w.heap.size 0 _ dk HH0.out (by rw [hF.size, Array.size_replicate]) j (by rw [hF.size]; rw [Lib.decDigits_length] at hj; exact hj))
      rw [Lib.decDigits_length] at h
      exact h
    have HF := Lib.hid hF
    clear hF
    go_wp2
    go_ret
    obtain ⟨os, eo⟩ := fin_pos0 w (.cells Lib.zeros24 233) dk k
    exact ⟨rfl, by rw [eo]; exact below_grow w k os⟩

set_option maxHeartbeats 400000 in
theorem fmt_uint (u : Nat) (w : World) (hu : u < 1000000000) (hE : Env w) :
    Calls Tryz.prog 260 #[.int .u64 u, .int .i64 10] w fun e w' => e = .returned (.string ⟨(Lib.decDigits u).toArray⟩) ∧ Below w.heap.size w w' := by
  have HE := Lib.hid (fmt_uint_in u w hu hE)
  clear hE
  go_enter Tryz.func260, Tryz.ntmps260
  go_wp2_with fail
  refine HE.out.mono ?_
  rintro e w' ⟨rfl, hb⟩
  go_wp2
  go_ret
  exact ⟨rfl, hb⟩
end Go.Proofs.YthkkdepppjiaeaaGreatDoor
