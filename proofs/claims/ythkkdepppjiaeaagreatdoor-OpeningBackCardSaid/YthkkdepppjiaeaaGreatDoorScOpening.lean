/- A PART OF THE PROOF, JOINED OUT OF 2 TEXTS. -/
import Derived.Test.YthkkdepppjiaeaaGreatDoorSbOpening
import Derived.Test.YthkkdepppjiaeaaGreatDoorPfText
import Derived.Deep.RegionHeld3
import Derived.Test.YthkkdepppjiaeaaGreatDoorQoApart
/- The program's package opening: Print. -/
namespace Go.Proofs.YthkkdepppjiaeaaGreatDoor
open Go.RowKit Go.Shelf Go.Sort

attribute [local go_sem] Oper.semAt_some

/-- The word of a kind. -/
def kwB (k : Int) : ByteArray := if k = 1 then (⟨#[117, 110, 112, 114, 111, 116, 101, 99, 116, 101, 100]⟩ : ByteArray) else if k = 2 then (⟨#[119, 101, 97, 116, 104, 101, 114, 116, 105, 103, 104, 116]⟩ : ByteArray) else (⟨#[119, 97, 116, 101, 114, 116, 105, 103, 104, 116]⟩ : ByteArray)
/-- The line of an opening. -/
def lnB (o : Opn) : ByteArray := ((((((((((((((⟨#[111, 112, 101, 110, 105, 110, 103, 32]⟩ : ByteArray) ++ (⟨(Lib.itoa (o.id)).toArray⟩ : ByteArray)) ++ (⟨#[32, 102, 114, 111, 109, 32]⟩ : ByteArray)) ++ (⟨(Lib.itoa (o.frm)).toArray⟩ : ByteArray)) ++ (⟨#[32, 116, 111, 32]⟩ : ByteArray)) ++ (⟨(Lib.itoa (o.dst)).toArray⟩ : ByteArray)) ++ (⟨#[32]⟩ : ByteArray)) ++ kwB o.kind) ++ (⟨#[32, 97, 116, 32]⟩ : ByteArray)) ++ o.pt.1) ++ (⟨#[32]⟩ : ByteArray)) ++ o.pt.2.1) ++ (⟨#[32]⟩ : ByteArray)) ++ o.pt.2.2) ++ (⟨#[10]⟩ : ByteArray)
/-- The text of the first k openings. -/
def prT (S : Nat → Opn) (k : Nat) : List UInt8 := (List.range k).flatMap fun i => (lnB (S i)).data.toList
theorem prT_succ (S : Nat → Opn) (k : Nat) : prT S (k + 1) = prT S k ++ (lnB (S k)).data.toList := by simp [prT, List.range_succ]
theorem prT_len {S : Nat → Opn} {L k : Nat} (h : ∀ i, i < k → (lnB (S i)).size ≤ L) : (prT S k).length ≤ k * L := by
  induction k with
  | zero => simp [prT]
  | succ k ih =>
    rw [prT_succ, List.length_append]
    have h1 := ih (fun i hi => h i (by omega))
    have h2 : (lnB (S k)).data.toList.length ≤ L := h k (by omega)
    have h3 : (k + 1) * L = k * L + L := by rw [Nat.add_mul, Nat.one_mul]
    omega
/-- What a round keeps while it draws its order: all below a block, and one row. -/
structure Pw (B g : Nat) (o : Obj) (V w : World) : Prop where
  base : Below B V w
  row : w.heap[g]? = some o
theorem Pw.drew {B g : Nat} {o : Obj} {V w : World} (h : Pw B g o V w) : Pw B g o V w.drew := ⟨Below.drew h.base, h.row⟩
theorem kind_index1 (a b c d : Value) (W : World) : (Instr.index 154 (.agg #[a, b, c, d]) (.int .i64 1)).run Tryz.prog W = .ok b W := by
  simp [Instr.index, Tryz.sizeOf9, Tryz.isAgg9, go_sem]
theorem kind_index2 (a b c d : Value) (W : World) : (Instr.index 154 (.agg #[a, b, c, d]) (.int .i64 2)).run Tryz.prog W = .ok c W := by
  simp [Instr.index, Tryz.sizeOf9, Tryz.isAgg9, go_sem]
theorem kind_index3 (a b c d : Value) (W : World) : (Instr.index 154 (.agg #[a, b, c, d]) (.int .i64 3)).run Tryz.prog W = .ok d W := by
  simp [Instr.index, Tryz.sizeOf9, Tryz.isAgg9, go_sem]
attribute [local go_sem] kind_index1 kind_index2 kind_index3
theorem arr4_row : RowTy Tryz.prog 154 4 := rowTy_array Tryz.underlying154 (by kernel_rfl)
theorem op_itoa (n : Int) (w : World) (hE : Env w) (h0 : 0 ≤ n) (h1 : n ≤ 9999) :
    Calls Tryz.prog 90 #[.int .i64 n] w fun e w' => e = .returned (.string ⟨(Lib.itoa n).toArray⟩) ∧ Below w.heap.size w w' :=
  (Tryz.strconv_Itoa n (by omega) (by omega) w hE.tab).mono (by
    rintro e w' ⟨rfl, k, os, rfl⟩
    exact ⟨rfl, below_grow w k os⟩)


set_option maxRecDepth 100000 in
set_option maxHeartbeats 4000000 in
theorem op_kinds (w : World) :
    Calls Tryz.prog 91 #[] w fun e w' => e = .returned (.agg #[.string ⟨#[]⟩, .string (⟨#[117, 110, 112, 114, 111, 116, 101, 99, 116, 101, 100]⟩ : ByteArray), .string (⟨#[119, 101, 97, 116, 104, 101, 114, 116, 105, 103, 104, 116]⟩ : ByteArray), .string (⟨#[119, 97, 116, 101, 114, 116, 105, 103, 104, 116]⟩ : ByteArray)]) ∧ Below w.heap.size w w' := by
  go_enter Tryz.func91, Tryz.ntmps91
  go_wp2_with fail
  exact bodyPost_ret (res_c rfl arr4_row rfl (heap_alloc_new _ _) rfl) rfl ⟨rfl, (A1 rfl).1⟩


set_option maxRecDepth 100000 in
set_option maxHeartbeats 4000000 in
theorem op_Print_bad (A : Option Addr) (n c : Nat) (ri rc : Int) (w : World) (hc1 : (rc != 0) = true)
    (hc : ∀ W, Below w.heap.size w W → Calls Tryz.prog 29 #[.slice A n c] W fun e w' => e = .returned (.tuple #[.int .i64 ri, .int .i64 rc]) ∧ Below W.heap.size W w') :
    Calls Tryz.prog 45 #[.slice A n c] w fun e w' => e = .returned (.tuple #[.string ⟨#[]⟩, .int .i64 1]) ∧ Below w.heap.size w w' := by
  have HC := Lib.hid hc
  clear hc
  go_enter Tryz.func45, Tryz.ntmps45
  go_wp2_with fail
  refine (HC.out _ (Below.refl _ _)).mono ?_
  rintro e w1 ⟨rfl, hB⟩
  go_wp2_with fail
  go_ret2
  exact ⟨rfl, hB⟩

theorem Pw.of_below {B g : Nat} {o : Obj} {V w : World} (hB : B ≤ V.heap.size) (hr : V.heap[g]? = some o) (h : Below V.heap.size V w) : Pw B g o V w := ⟨h.mono hB, keep h hr⟩

theorem builder_lt {T e : TypeId} {B b : Nat} {bs : List Value} {w : World} (h : Lib.IsBuilderF T e B b bs w) : b < w.heap.size := by
  rcases h with ⟨_, v, h, _⟩ | ⟨_, v, h, _⟩ <;> exact lt_of_row h


set_option maxRecDepth 100000 in
set_option maxHeartbeats 4000000 in
theorem op_Print_ok (A : Option Addr) (b off n c : Nat) (S : Nat → Opn) (w : World) (hE : Env w) (hn : n ≤ 64) (hA : 0 < n → A = some ⟨b, off, none⟩) (hS : OpsAt w b off n S) (hok : ∀ i, i < n → opC S i = 0) (hl : ∀ i, i < n → (lnB (S i)).size ≤ 1000000000)
    (hc : ∀ W, Below w.heap.size w W → Calls Tryz.prog 29 #[.slice A n c] W fun e w' => e = .returned (.tuple #[.int .i64 (-1), .int .i64 0]) ∧ Below W.heap.size W w') :
    Calls Tryz.prog 45 #[.slice A n c] w fun e w' => e = .returned (.tuple #[.string ⟨(prT S n).toArray⟩, .int .i64 0]) ∧ Below w.heap.size w w' := by
  have HC := Lib.hid hc
  have HS := Lib.hid hS
  have HA := Lib.hid hA
  clear hA
  have HR := Lib.hid (fun i hi => show RngO (S i).id (S i).frm (S i).dst (S i).kind by
    have h := hok i hi
    unfold opC at h
    by_cases g : RngO (S i).id (S i).frm (S i).dst (S i).kind
    · exact g
    · rw [if_pos g] at h; cases h)
  have HL := Lib.hid hl
  have HP := Lib.hid (fun k (hk : k ≤ n) => prT_len (S := S) (L := 1000000000) (k := k) (fun i hi => hl i (by omega)))
  have HE := Lib.hid hE
  clear hc hS hok hl hE
  go_enter Tryz.func45, Tryz.ntmps45
  go_wp2_with fail
  refine (HC.out _ (Below.refl _ _)).mono ?_
  rintro e w1 ⟨rfl, hB⟩
  go_upto_region 5 with fail
  have LW := hB.size
  generalize hW : World.alloc _ _ = X
  obtain ⟨hb, hsz, R6⟩ := A1 hW
  replace hB := bstep hB hb
  clear hb
  have R6 := Lib.hid R6
  clear hW hsz
  have hbu : Hid (Lib.IsBuilderF 148 5 w.heap.size w1.heap.size (Lib.byteCells (prT S 0)) X) :=
    Lib.hid (.inl ⟨LW, _, R6.out, World.ownsRowF_nil _ _ _ _, by simp [Value.ownBlock]⟩)
  clear R6
  generalize w1.heap.size = bb at *
  go_wp2_with fail
  go_loopw [18] (fun x wr => ∃ k : Nat, k ≤ n ∧ x = .int .i64 k ∧ Below w.heap.size w wr ∧ Hid (Lib.IsBuilderF 148 5 w.heap.size bb (Lib.byteCells (prT S k)) wr)) (fun x _ => n - (intOf x).toNat)
  case atStart => exact ⟨0, Nat.zero_le _, rfl, hB, hbu⟩
  case round =>
    clear hbu hB
    obtain ⟨k, hk, rfl, hB, HU⟩ := hrel
    by_cases hlt : k < n
    · have hAe := HA.out (by omega)
      subst hAe
      obtain ⟨c0, c1, c2, c3, c4, c5, c6⟩ := (HS.out.below hB) k hlt
      have hr := HR.out k hlt
      have HLk := Lib.hid (show (prT S k).length + (lnB (S k)).size ≤ 140737488355328 by
        have h1 := HP.out k (by omega)
        have h2 := HL.out k hlt
        have h3 : k * 1000000000 ≤ 64 * 1000000000 := Nat.mul_le_mul_right _ (by omega)
        omega)
      have HSC := Lib.hid (prT_succ S k)
      unfold lnB at HLk HSC
      have hbl := builder_lt HU.out
      have HBC : Hid ((Lib.byteCells (prT S k)).length = (prT S k).length) := Lib.hid (by simp [Lib.byteCells])
      generalize (S k).id = a1 at *
      generalize (S k).frm = a2 at *
      generalize (S k).dst = a3 at *
      generalize (S k).kind = a4 at *
      generalize (S k).pt.1 = s1 at *
      generalize (S k).pt.2.1 = s2 at *
      generalize (S k).pt.2.2 = s3 at *
      obtain ⟨r1, r2, r3, r4, r5, r6, r7, r8⟩ := hr
      have HJ1 := Lib.hid (fun W hE => op_itoa a1 W hE (by omega) (by omega))
      have HJ2 := Lib.hid (fun W hE => op_itoa a2 W hE (by omega) (by omega))
      have HJ3 := Lib.hid (fun W hE => op_itoa a3 W hE (by omega) (by omega))
      clear r1 r2 r3 r4 r5 r6
      generalize (⟨(Lib.itoa a1).toArray⟩ : ByteArray) = I1 at *
      generalize (⟨(Lib.itoa a2).toArray⟩ : ByteArray) = I2 at *
      generalize (⟨(Lib.itoa a3).toArray⟩ : ByteArray) = I3 at *
      obtain rfl | rfl | rfl : a4 = 1 ∨ a4 = 2 ∨ a4 = 3 := by omega
      · rw [show kwB 1 = (⟨#[117, 110, 112, 114, 111, 116, 101, 99, 116, 101, 100]⟩ : ByteArray) from rfl] at HLk HSC
        obtain ⟨T1, e1⟩ : ∃ T, T = (⟨#[111, 112, 101, 110, 105, 110, 103, 32]⟩ : ByteArray) ++ I1 := ⟨_, rfl⟩
        obtain ⟨T2, e2⟩ : ∃ T, T = T1 ++ (⟨#[32, 102, 114, 111, 109, 32]⟩ : ByteArray) := ⟨_, rfl⟩
        obtain ⟨T3, e3⟩ : ∃ T, T = T2 ++ I2 := ⟨_, rfl⟩
        obtain ⟨T4, e4⟩ : ∃ T, T = T3 ++ (⟨#[32, 116, 111, 32]⟩ : ByteArray) := ⟨_, rfl⟩
        obtain ⟨T5, e5⟩ : ∃ T, T = T4 ++ I3 := ⟨_, rfl⟩
        obtain ⟨T6, e6⟩ : ∃ T, T = T5 ++ (⟨#[32]⟩ : ByteArray) := ⟨_, rfl⟩
        obtain ⟨T7, e7⟩ : ∃ T, T = T6 ++ (⟨#[117, 110, 112, 114, 111, 116, 101, 99, 116, 101, 100]⟩ : ByteArray) := ⟨_, rfl⟩
        obtain ⟨T8, e8⟩ : ∃ T, T = T7 ++ (⟨#[32, 97, 116, 32]⟩ : ByteArray) := ⟨_, rfl⟩
        obtain ⟨T9, e9⟩ : ∃ T, T = T8 ++ s1 := ⟨_, rfl⟩
        obtain ⟨T10, e10⟩ : ∃ T, T = T9 ++ (⟨#[32]⟩ : ByteArray) := ⟨_, rfl⟩
        obtain ⟨T11, e11⟩ : ∃ T, T = T10 ++ s2 := ⟨_, rfl⟩
        obtain ⟨T12, e12⟩ : ∃ T, T = T11 ++ (⟨#[32]⟩ : ByteArray) := ⟨_, rfl⟩
        obtain ⟨T13, e13⟩ : ∃ T, T = T12 ++ s3 := ⟨_, rfl⟩
        obtain ⟨T14, e14⟩ : ∃ T, T = T13 ++ (⟨#[10]⟩ : ByteArray) := ⟨_, rfl⟩
        rw [show ((((((((((((((⟨#[111, 112, 101, 110, 105, 110, 103, 32]⟩ : ByteArray) ++ I1) ++ (⟨#[32, 102, 114, 111, 109, 32]⟩ : ByteArray)) ++ I2) ++ (⟨#[32, 116, 111, 32]⟩ : ByteArray)) ++ I3) ++ (⟨#[32]⟩ : ByteArray)) ++ (⟨#[117, 110, 112, 114, 111, 116, 101, 99, 116, 101, 100]⟩ : ByteArray)) ++ (⟨#[32, 97, 116, 32]⟩ : ByteArray)) ++ s1) ++ (⟨#[32]⟩ : ByteArray)) ++ s2) ++ (⟨#[32]⟩ : ByteArray)) ++ s3) ++ (⟨#[10]⟩ : ByteArray) = T14 by rw [e14, e13, e12, e11, e10, e9, e8, e7, e6, e5, e4, e3, e2, e1]] at HLk HSC
        have hT := HLk.out
        have z1 : T1.size = 8 + I1.size := by rw [e1, ByteArray.size_append]; first | rfl | done
        have z2 : T2.size = T1.size + 6 := by rw [e2, ByteArray.size_append]; first | rfl | done
        have z3 : T3.size = T2.size + I2.size := by rw [e3, ByteArray.size_append]; first | rfl | done
        have z4 : T4.size = T3.size + 4 := by rw [e4, ByteArray.size_append]; first | rfl | done
        have z5 : T5.size = T4.size + I3.size := by rw [e5, ByteArray.size_append]; first | rfl | done
        have z6 : T6.size = T5.size + 1 := by rw [e6, ByteArray.size_append]; first | rfl | done
        have z7 : T7.size = T6.size + 11 := by rw [e7, ByteArray.size_append]; first | rfl | done
        have z8 : T8.size = T7.size + 4 := by rw [e8, ByteArray.size_append]; first | rfl | done
        have z9 : T9.size = T8.size + s1.size := by rw [e9, ByteArray.size_append]; first | rfl | done
        have z10 : T10.size = T9.size + 1 := by rw [e10, ByteArray.size_append]; first | rfl | done
        have z11 : T11.size = T10.size + s2.size := by rw [e11, ByteArray.size_append]; first | rfl | done
        have z12 : T12.size = T11.size + 1 := by rw [e12, ByteArray.size_append]; first | rfl | done
        have z13 : T13.size = T12.size + s3.size := by rw [e13, ByteArray.size_append]; first | rfl | done
        have z14 : T14.size = T13.size + 1 := by rw [e14, ByteArray.size_append]; first | rfl | done
        have g1 : ¬ 9223372036854775807 < 8 + I1.size := by omega
        have g2 : ¬ 9223372036854775807 < T1.size + 6 := by omega
        have g3 : ¬ 9223372036854775807 < T2.size + I2.size := by omega
        have g4 : ¬ 9223372036854775807 < T3.size + 4 := by omega
        have g5 : ¬ 9223372036854775807 < T4.size + I3.size := by omega
        have g6 : ¬ 9223372036854775807 < T5.size + 1 := by omega
        have g7 : ¬ 9223372036854775807 < T6.size + 11 := by omega
        have g8 : ¬ 9223372036854775807 < T7.size + 4 := by omega
        have g9 : ¬ 9223372036854775807 < T8.size + s1.size := by omega
        have g10 : ¬ 9223372036854775807 < T9.size + 1 := by omega
        have g11 : ¬ 9223372036854775807 < T10.size + s2.size := by omega
        have g12 : ¬ 9223372036854775807 < T11.size + 1 := by omega
        have g13 : ¬ 9223372036854775807 < T12.size + s3.size := by omega
        have g14 : ¬ 9223372036854775807 < T13.size + 1 := by omega
        clear hT z1 z2 z3 z4 z5 z6 z7 z8 z9 z10 z11 z12 z13 z14
        replace e1 := e1.symm
        replace e2 := e2.symm
        replace e3 := e3.symm
        replace e4 := e4.symm
        replace e5 := e5.symm
        replace e6 := e6.symm
        replace e7 := e7.symm
        replace e8 := e8.symm
        replace e9 := e9.symm
        replace e10 := e10.symm
        replace e11 := e11.symm
        replace e12 := e12.symm
        replace e13 := e13.symm
        replace e14 := e14.symm
        go_upto_region 8 with fail
        generalize hW : World.alloc wr _ = V
        obtain ⟨hb, hsz, R8⟩ := A1 hW
        have HU := Lib.hid (isBuilderF_below HU.out hb)
        replace hB := bstep hB hb
        have R8 := Lib.hid R8
        have NB : Hid (some wr.heap.size ≠ some bb) := Lib.hid (by simp only [ne_eq, Option.some.injEq]; omega)
        have LV : Hid (w.heap.size ≤ V.heap.size) := Lib.hid hB.size
        clear hW hsz hb c0 c1 c2 c3 c4 c5 c6
        have HI1 := Lib.hid (fun W (hb : Below V.heap.size V W) => HJ1.out W (HE.out.below (bstep hB hb)))
        have HI2 := Lib.hid (fun W (hb : Below V.heap.size V W) => HJ2.out W (HE.out.below (bstep hB hb)))
        have HI3 := Lib.hid (fun W (hb : Below V.heap.size V W) => HJ3.out W (HE.out.below (bstep hB hb)))
        have HK := Lib.hid (fun W (_ : Below V.heap.size V W) => op_kinds W)
        have HWs := Lib.hid (fun W (hb : Below V.heap.size V W) => Tryz.Builder_WriteString_k w.heap.size bb _ T14 W (isBuilderF_below HU.out hb) (by rw [HBC.out]; exact HLk.out) (Nat.le_trans LV.out hb.size))
        have LR8 := fun (w' : World) (h : Pw w.heap.size wr.heap.size (.cells #[.int .i64 a1, .int .i64 a2, .int .i64 a3, .int .i64 1, .string s1, .string s2, .string s3] 26 (0, 0)) V w') => rowc7 h.row
        have hv0 := Below.refl V.heap.size V
        have hs0 : Pw w.heap.size wr.heap.size (.cells #[.int .i64 a1, .int .i64 a2, .int .i64 a3, .int .i64 1, .string s1, .string s2, .string s3] 26 (0, 0)) V V := Pw.of_below LV.out R8.out hv0
        first
        | go_region_held3 (fun w' => Pw w.heap.size wr.heap.size (.cells #[.int .i64 a1, .int .i64 a2, .int .i64 a3, .int .i64 1, .string s1, .string s2, .string s3] 26 (0, 0)) V w') (first | (with_reducible assumption) | (with_reducible exact Pw.drew (by assumption)))
            (first
              | (go_at_call 90; (with_reducible refine (HI1.out _ (by first | with_reducible exact hv0 | with_reducible exact Below.drew hv0)).mono ?_); rintro e wq0 ⟨rfl, hb⟩; have hv1 : Below V.heap.size V wq0 := (by first | with_reducible exact bstep hv0 hb | with_reducible exact bstep (Below.drew hv0) hb); have hs1 : Pw w.heap.size wr.heap.size (.cells #[.int .i64 a1, .int .i64 a2, .int .i64 a3, .int .i64 1, .string s1, .string s2, .string s3] 26 (0, 0)) V wq0 := Pw.of_below LV.out R8.out hv1; clear hb)
              | (go_at_call 90; (with_reducible refine (HI2.out _ (by first | with_reducible exact hv1 | with_reducible exact Below.drew hv1)).mono ?_); rintro e wq1 ⟨rfl, hb⟩; have hv2 : Below V.heap.size V wq1 := (by first | with_reducible exact bstep hv1 hb | with_reducible exact bstep (Below.drew hv1) hb); have hs2 : Pw w.heap.size wr.heap.size (.cells #[.int .i64 a1, .int .i64 a2, .int .i64 a3, .int .i64 1, .string s1, .string s2, .string s3] 26 (0, 0)) V wq1 := Pw.of_below LV.out R8.out hv2; clear hb)
              | (go_at_call 90; (with_reducible refine (HI3.out _ (by first | with_reducible exact hv2 | with_reducible exact Below.drew hv2)).mono ?_); rintro e wq2 ⟨rfl, hb⟩; have hv3 : Below V.heap.size V wq2 := (by first | with_reducible exact bstep hv2 hb | with_reducible exact bstep (Below.drew hv2) hb); have hs3 : Pw w.heap.size wr.heap.size (.cells #[.int .i64 a1, .int .i64 a2, .int .i64 a3, .int .i64 1, .string s1, .string s2, .string s3] 26 (0, 0)) V wq2 := Pw.of_below LV.out R8.out hv3; clear hb)
              | (go_at_call 91; (with_reducible refine (HK.out _ (by first | with_reducible exact hv3 | with_reducible exact Below.drew hv3)).mono ?_); rintro e wq3 ⟨rfl, hb⟩; have hv4 : Below V.heap.size V wq3 := (by first | with_reducible exact bstep hv3 hb | with_reducible exact bstep (Below.drew hv3) hb); have hs4 : Pw w.heap.size wr.heap.size (.cells #[.int .i64 a1, .int .i64 a2, .int .i64 a3, .int .i64 1, .string s1, .string s2, .string s3] 26 (0, 0)) V wq3 := Pw.of_below LV.out R8.out hv4; clear hb)
              | (go_at_call 89; (with_reducible refine (HWs.out _ (by first | with_reducible exact hv4 | with_reducible exact Below.drew hv4)).mono ?_); rintro e wq4 ⟨rfl, hu4, hb4, ho4⟩; have hs5 : Pw w.heap.size wr.heap.size (.cells #[.int .i64 a1, .int .i64 a2, .int .i64 a3, .int .i64 1, .string s1, .string s2, .string s3] 26 (0, 0)) V wq4 := ⟨(Below.mono (by first | with_reducible exact hv4 | with_reducible exact Below.drew hv4) LV.out).trans hb4, ho4 _ _ (keep (by first | with_reducible exact hv4 | with_reducible exact Below.drew hv4) R8.out) NB.out (fun _ _ h => by cases h)⟩; have HU4 := Lib.hid hu4; clear hu4 ho4 hb4))
        | fail
        all_goals
          go_wp2_with fail
          go_roundw
          case rel => exact ⟨k + 1, by omega, by go_num, hB.trans hs5.base, Lib.hid (.inr (by rw [HSC.out, Lib.byteCells_append]; exact HU4.out))⟩
          case measure => simp [intOf]; omega
      · rw [show kwB 2 = (⟨#[119, 101, 97, 116, 104, 101, 114, 116, 105, 103, 104, 116]⟩ : ByteArray) from rfl] at HLk HSC
        obtain ⟨T1, e1⟩ : ∃ T, T = (⟨#[111, 112, 101, 110, 105, 110, 103, 32]⟩ : ByteArray) ++ I1 := ⟨_, rfl⟩
        obtain ⟨T2, e2⟩ : ∃ T, T = T1 ++ (⟨#[32, 102, 114, 111, 109, 32]⟩ : ByteArray) := ⟨_, rfl⟩
        obtain ⟨T3, e3⟩ : ∃ T, T = T2 ++ I2 := ⟨_, rfl⟩
        obtain ⟨T4, e4⟩ : ∃ T, T = T3 ++ (⟨#[32, 116, 111, 32]⟩ : ByteArray) := ⟨_, rfl⟩
        obtain ⟨T5, e5⟩ : ∃ T, T = T4 ++ I3 := ⟨_, rfl⟩
        obtain ⟨T6, e6⟩ : ∃ T, T = T5 ++ (⟨#[32]⟩ : ByteArray) := ⟨_, rfl⟩
        obtain ⟨T7, e7⟩ : ∃ T, T = T6 ++ (⟨#[119, 101, 97, 116, 104, 101, 114, 116, 105, 103, 104, 116]⟩ : ByteArray) := ⟨_, rfl⟩
        obtain ⟨T8, e8⟩ : ∃ T, T = T7 ++ (⟨#[32, 97, 116, 32]⟩ : ByteArray) := ⟨_, rfl⟩
        obtain ⟨T9, e9⟩ : ∃ T, T = T8 ++ s1 := ⟨_, rfl⟩
        obtain ⟨T10, e10⟩ : ∃ T, T = T9 ++ (⟨#[32]⟩ : ByteArray) := ⟨_, rfl⟩
        obtain ⟨T11, e11⟩ : ∃ T, T = T10 ++ s2 := ⟨_, rfl⟩
        obtain ⟨T12, e12⟩ : ∃ T, T = T11 ++ (⟨#[32]⟩ : ByteArray) := ⟨_, rfl⟩
        obtain ⟨T13, e13⟩ : ∃ T, T = T12 ++ s3 := ⟨_, rfl⟩
        obtain ⟨T14, e14⟩ : ∃ T, T = T13 ++ (⟨#[10]⟩ : ByteArray) := ⟨_, rfl⟩
        rw [show ((((((((((((((⟨#[111, 112, 101, 110, 105, 110, 103, 32]⟩ : ByteArray) ++ I1) ++ (⟨#[32, 102, 114, 111, 109, 32]⟩ : ByteArray)) ++ I2) ++ (⟨#[32, 116, 111, 32]⟩ : ByteArray)) ++ I3) ++ (⟨#[32]⟩ : ByteArray)) ++ (⟨#[119, 101, 97, 116, 104, 101, 114, 116, 105, 103, 104, 116]⟩ : ByteArray)) ++ (⟨#[32, 97, 116, 32]⟩ : ByteArray)) ++ s1) ++ (⟨#[32]⟩ : ByteArray)) ++ s2) ++ (⟨#[32]⟩ : ByteArray)) ++ s3) ++ (⟨#[10]⟩ : ByteArray) = T14 by rw [e14, e13, e12, e11, e10, e9, e8, e7, e6, e5, e4, e3, e2, e1]] at HLk HSC
        have hT := HLk.out
        have z1 : T1.size = 8 + I1.size := by rw [e1, ByteArray.size_append]; first | rfl | done
        have z2 : T2.size = T1.size + 6 := by rw [e2, ByteArray.size_append]; first | rfl | done
        have z3 : T3.size = T2.size + I2.size := by rw [e3, ByteArray.size_append]; first | rfl | done
        have z4 : T4.size = T3.size + 4 := by rw [e4, ByteArray.size_append]; first | rfl | done
        have z5 : T5.size = T4.size + I3.size := by rw [e5, ByteArray.size_append]; first | rfl | done
        have z6 : T6.size = T5.size + 1 := by rw [e6, ByteArray.size_append]; first | rfl | done
        have z7 : T7.size = T6.size + 12 := by rw [e7, ByteArray.size_append]; first | rfl | done
        have z8 : T8.size = T7.size + 4 := by rw [e8, ByteArray.size_append]; first | rfl | done
        have z9 : T9.size = T8.size + s1.size := by rw [e9, ByteArray.size_append]; first | rfl | done
        have z10 : T10.size = T9.size + 1 := by rw [e10, ByteArray.size_append]; first | rfl | done
        have z11 : T11.size = T10.size + s2.size := by rw [e11, ByteArray.size_append]; first | rfl | done
        have z12 : T12.size = T11.size + 1 := by rw [e12, ByteArray.size_append]; first | rfl | done
        have z13 : T13.size = T12.size + s3.size := by rw [e13, ByteArray.size_append]; first | rfl | done
        have z14 : T14.size = T13.size + 1 := by rw [e14, ByteArray.size_append]; first | rfl | done
        have g1 : ¬ 9223372036854775807 < 8 + I1.size := by omega
        have g2 : ¬ 9223372036854775807 < T1.size + 6 := by omega
        have g3 : ¬ 9223372036854775807 < T2.size + I2.size := by omega
        have g4 : ¬ 9223372036854775807 < T3.size + 4 := by omega
        have g5 : ¬ 9223372036854775807 < T4.size + I3.size := by omega
        have g6 : ¬ 9223372036854775807 < T5.size + 1 := by omega
        have g7 : ¬ 9223372036854775807 < T6.size + 12 := by omega
        have g8 : ¬ 9223372036854775807 < T7.size + 4 := by omega
        have g9 : ¬ 9223372036854775807 < T8.size + s1.size := by omega
        have g10 : ¬ 9223372036854775807 < T9.size + 1 := by omega
        have g11 : ¬ 9223372036854775807 < T10.size + s2.size := by omega
        have g12 : ¬ 9223372036854775807 < T11.size + 1 := by omega
        have g13 : ¬ 9223372036854775807 < T12.size + s3.size := by omega
        have g14 : ¬ 9223372036854775807 < T13.size + 1 := by omega
        clear hT z1 z2 z3 z4 z5 z6 z7 z8 z9 z10 z11 z12 z13 z14
        replace e1 := e1.symm
        replace e2 := e2.symm
        replace e3 := e3.symm
        replace e4 := e4.symm
        replace e5 := e5.symm
        replace e6 := e6.symm
        replace e7 := e7.symm
        replace e8 := e8.symm
        replace e9 := e9.symm
        replace e10 := e10.symm
        replace e11 := e11.symm
        replace e12 := e12.symm
        replace e13 := e13.symm
        replace e14 := e14.symm
        go_upto_region 8 with fail
        generalize hW : World.alloc wr _ = V
        obtain ⟨hb, hsz, R8⟩ := A1 hW
        have HU := Lib.hid (isBuilderF_below HU.out hb)
        replace hB := bstep hB hb
        have R8 := Lib.hid R8
        have NB : Hid (some wr.heap.size ≠ some bb) := Lib.hid (by simp only [ne_eq, Option.some.injEq]; omega)
        have LV : Hid (w.heap.size ≤ V.heap.size) := Lib.hid hB.size
        clear hW hsz hb c0 c1 c2 c3 c4 c5 c6
        have HI1 := Lib.hid (fun W (hb : Below V.heap.size V W) => HJ1.out W (HE.out.below (bstep hB hb)))
        have HI2 := Lib.hid (fun W (hb : Below V.heap.size V W) => HJ2.out W (HE.out.below (bstep hB hb)))
        have HI3 := Lib.hid (fun W (hb : Below V.heap.size V W) => HJ3.out W (HE.out.below (bstep hB hb)))
        have HK := Lib.hid (fun W (_ : Below V.heap.size V W) => op_kinds W)
        have HWs := Lib.hid (fun W (hb : Below V.heap.size V W) => Tryz.Builder_WriteString_k w.heap.size bb _ T14 W (isBuilderF_below HU.out hb) (by rw [HBC.out]; exact HLk.out) (Nat.le_trans LV.out hb.size))
        have LR8 := fun (w' : World) (h : Pw w.heap.size wr.heap.size (.cells #[.int .i64 a1, .int .i64 a2, .int .i64 a3, .int .i64 2, .string s1, .string s2, .string s3] 26 (0, 0)) V w') => rowc7 h.row
        have hv0 := Below.refl V.heap.size V
        have hs0 : Pw w.heap.size wr.heap.size (.cells #[.int .i64 a1, .int .i64 a2, .int .i64 a3, .int .i64 2, .string s1, .string s2, .string s3] 26 (0, 0)) V V := Pw.of_below LV.out R8.out hv0
        first
        | go_region_held3 (fun w' => Pw w.heap.size wr.heap.size (.cells #[.int .i64 a1, .int .i64 a2, .int .i64 a3, .int .i64 2, .string s1, .string s2, .string s3] 26 (0, 0)) V w') (first | (with_reducible assumption) | (with_reducible exact Pw.drew (by assumption)))
            (first
              | (go_at_call 90; (with_reducible refine (HI1.out _ (by first | with_reducible exact hv0 | with_reducible exact Below.drew hv0)).mono ?_); rintro e wq0 ⟨rfl, hb⟩; have hv1 : Below V.heap.size V wq0 := (by first | with_reducible exact bstep hv0 hb | with_reducible exact bstep (Below.drew hv0) hb); have hs1 : Pw w.heap.size wr.heap.size (.cells #[.int .i64 a1, .int .i64 a2, .int .i64 a3, .int .i64 2, .string s1, .string s2, .string s3] 26 (0, 0)) V wq0 := Pw.of_below LV.out R8.out hv1; clear hb)
              | (go_at_call 90; (with_reducible refine (HI2.out _ (by first | with_reducible exact hv1 | with_reducible exact Below.drew hv1)).mono ?_); rintro e wq1 ⟨rfl, hb⟩; have hv2 : Below V.heap.size V wq1 := (by first | with_reducible exact bstep hv1 hb | with_reducible exact bstep (Below.drew hv1) hb); have hs2 : Pw w.heap.size wr.heap.size (.cells #[.int .i64 a1, .int .i64 a2, .int .i64 a3, .int .i64 2, .string s1, .string s2, .string s3] 26 (0, 0)) V wq1 := Pw.of_below LV.out R8.out hv2; clear hb)
              | (go_at_call 90; (with_reducible refine (HI3.out _ (by first | with_reducible exact hv2 | with_reducible exact Below.drew hv2)).mono ?_); rintro e wq2 ⟨rfl, hb⟩; have hv3 : Below V.heap.size V wq2 := (by first | with_reducible exact bstep hv2 hb | with_reducible exact bstep (Below.drew hv2) hb); have hs3 : Pw w.heap.size wr.heap.size (.cells #[.int .i64 a1, .int .i64 a2, .int .i64 a3, .int .i64 2, .string s1, .string s2, .string s3] 26 (0, 0)) V wq2 := Pw.of_below LV.out R8.out hv3; clear hb)
              | (go_at_call 91; (with_reducible refine (HK.out _ (by first | with_reducible exact hv3 | with_reducible exact Below.drew hv3)).mono ?_); rintro e wq3 ⟨rfl, hb⟩; have hv4 : Below V.heap.size V wq3 := (by first | with_reducible exact bstep hv3 hb | with_reducible exact bstep (Below.drew hv3) hb); have hs4 : Pw w.heap.size wr.heap.size (.cells #[.int .i64 a1, .int .i64 a2, .int .i64 a3, .int .i64 2, .string s1, .string s2, .string s3] 26 (0, 0)) V wq3 := Pw.of_below LV.out R8.out hv4; clear hb)
              | (go_at_call 89; (with_reducible refine (HWs.out _ (by first | with_reducible exact hv4 | with_reducible exact Below.drew hv4)).mono ?_); rintro e wq4 ⟨rfl, hu4, hb4, ho4⟩; have hs5 : Pw w.heap.size wr.heap.size (.cells #[.int .i64 a1, .int .i64 a2, .int .i64 a3, .int .i64 2, .string s1, .string s2, .string s3] 26 (0, 0)) V wq4 := ⟨(Below.mono (by first | with_reducible exact hv4 | with_reducible exact Below.drew hv4) LV.out).trans hb4, ho4 _ _ (keep (by first | with_reducible exact hv4 | with_reducible exact Below.drew hv4) R8.out) NB.out (fun _ _ h => by cases h)⟩; have HU4 := Lib.hid hu4; clear hu4 ho4 hb4))
        | fail
        all_goals
          go_wp2_with fail
          go_roundw
          case rel => exact ⟨k + 1, by omega, by go_num, hB.trans hs5.base, Lib.hid (.inr (by rw [HSC.out, Lib.byteCells_append]; exact HU4.out))⟩
          case measure => simp [intOf]; omega
      · rw [show kwB 3 = (⟨#[119, 97, 116, 101, 114, 116, 105, 103, 104, 116]⟩ : ByteArray) from rfl] at HLk HSC
        obtain ⟨T1, e1⟩ : ∃ T, T = (⟨#[111, 112, 101, 110, 105, 110, 103, 32]⟩ : ByteArray) ++ I1 := ⟨_, rfl⟩
        obtain ⟨T2, e2⟩ : ∃ T, T = T1 ++ (⟨#[32, 102, 114, 111, 109, 32]⟩ : ByteArray) := ⟨_, rfl⟩
        obtain ⟨T3, e3⟩ : ∃ T, T = T2 ++ I2 := ⟨_, rfl⟩
        obtain ⟨T4, e4⟩ : ∃ T, T = T3 ++ (⟨#[32, 116, 111, 32]⟩ : ByteArray) := ⟨_, rfl⟩
        obtain ⟨T5, e5⟩ : ∃ T, T = T4 ++ I3 := ⟨_, rfl⟩
        obtain ⟨T6, e6⟩ : ∃ T, T = T5 ++ (⟨#[32]⟩ : ByteArray) := ⟨_, rfl⟩
        obtain ⟨T7, e7⟩ : ∃ T, T = T6 ++ (⟨#[119, 97, 116, 101, 114, 116, 105, 103, 104, 116]⟩ : ByteArray) := ⟨_, rfl⟩
        obtain ⟨T8, e8⟩ : ∃ T, T = T7 ++ (⟨#[32, 97, 116, 32]⟩ : ByteArray) := ⟨_, rfl⟩
        obtain ⟨T9, e9⟩ : ∃ T, T = T8 ++ s1 := ⟨_, rfl⟩
        obtain ⟨T10, e10⟩ : ∃ T, T = T9 ++ (⟨#[32]⟩ : ByteArray) := ⟨_, rfl⟩
        obtain ⟨T11, e11⟩ : ∃ T, T = T10 ++ s2 := ⟨_, rfl⟩
        obtain ⟨T12, e12⟩ : ∃ T, T = T11 ++ (⟨#[32]⟩ : ByteArray) := ⟨_, rfl⟩
        obtain ⟨T13, e13⟩ : ∃ T, T = T12 ++ s3 := ⟨_, rfl⟩
        obtain ⟨T14, e14⟩ : ∃ T, T = T13 ++ (⟨#[10]⟩ : ByteArray) := ⟨_, rfl⟩
        rw [show ((((((((((((((⟨#[111, 112, 101, 110, 105, 110, 103, 32]⟩ : ByteArray) ++ I1) ++ (⟨#[32, 102, 114, 111, 109, 32]⟩ : ByteArray)) ++ I2) ++ (⟨#[32, 116, 111, 32]⟩ : ByteArray)) ++ I3) ++ (⟨#[32]⟩ : ByteArray)) ++ (⟨#[119, 97, 116, 101, 114, 116, 105, 103, 104, 116]⟩ : ByteArray)) ++ (⟨#[32, 97, 116, 32]⟩ : ByteArray)) ++ s1) ++ (⟨#[32]⟩ : ByteArray)) ++ s2) ++ (⟨#[32]⟩ : ByteArray)) ++ s3) ++ (⟨#[10]⟩ : ByteArray) = T14 by rw [e14, e13, e12, e11, e10, e9, e8, e7, e6, e5, e4, e3, e2, e1]] at HLk HSC
        have hT := HLk.out
        have z1 : T1.size = 8 + I1.size := by rw [e1, ByteArray.size_append]; first | rfl | done
        have z2 : T2.size = T1.size + 6 := by rw [e2, ByteArray.size_append]; first | rfl | done
        have z3 : T3.size = T2.size + I2.size := by rw [e3, ByteArray.size_append]; first | rfl | done
        have z4 : T4.size = T3.size + 4 := by rw [e4, ByteArray.size_append]; first | rfl | done
        have z5 : T5.size = T4.size + I3.size := by rw [e5, ByteArray.size_append]; first | rfl | done
        have z6 : T6.size = T5.size + 1 := by rw [e6, ByteArray.size_append]; first | rfl | done
        have z7 : T7.size = T6.size + 10 := by rw [e7, ByteArray.size_append]; first | rfl | done
        have z8 : T8.size = T7.size + 4 := by rw [e8, ByteArray.size_append]; first | rfl | done
        have z9 : T9.size = T8.size + s1.size := by rw [e9, ByteArray.size_append]; first | rfl | done
        have z10 : T10.size = T9.size + 1 := by rw [e10, ByteArray.size_append]; first | rfl | done
        have z11 : T11.size = T10.size + s2.size := by rw [e11, ByteArray.size_append]; first | rfl | done
        have z12 : T12.size = T11.size + 1 := by rw [e12, ByteArray.size_append]; first | rfl | done
        have z13 : T13.size = T12.size + s3.size := by rw [e13, ByteArray.size_append]; first | rfl | done
        have z14 : T14.size = T13.size + 1 := by rw [e14, ByteArray.size_append]; first | rfl | done
        have g1 : ¬ 9223372036854775807 < 8 + I1.size := by omega
        have g2 : ¬ 9223372036854775807 < T1.size + 6 := by omega
        have g3 : ¬ 9223372036854775807 < T2.size + I2.size := by omega
        have g4 : ¬ 9223372036854775807 < T3.size + 4 := by omega
        have g5 : ¬ 9223372036854775807 < T4.size + I3.size := by omega
        have g6 : ¬ 9223372036854775807 < T5.size + 1 := by omega
        have g7 : ¬ 9223372036854775807 < T6.size + 10 := by omega
        have g8 : ¬ 9223372036854775807 < T7.size + 4 := by omega
        have g9 : ¬ 9223372036854775807 < T8.size + s1.size := by omega
        have g10 : ¬ 9223372036854775807 < T9.size + 1 := by omega
        have g11 : ¬ 9223372036854775807 < T10.size + s2.size := by omega
        have g12 : ¬ 9223372036854775807 < T11.size + 1 := by omega
        have g13 : ¬ 9223372036854775807 < T12.size + s3.size := by omega
        have g14 : ¬ 9223372036854775807 < T13.size + 1 := by omega
        clear hT z1 z2 z3 z4 z5 z6 z7 z8 z9 z10 z11 z12 z13 z14
        replace e1 := e1.symm
        replace e2 := e2.symm
        replace e3 := e3.symm
        replace e4 := e4.symm
        replace e5 := e5.symm
        replace e6 := e6.symm
        replace e7 := e7.symm
        replace e8 := e8.symm
        replace e9 := e9.symm
        replace e10 := e10.symm
        replace e11 := e11.symm
        replace e12 := e12.symm
        replace e13 := e13.symm
        replace e14 := e14.symm
        go_upto_region 8 with fail
        generalize hW : World.alloc wr _ = V
        obtain ⟨hb, hsz, R8⟩ := A1 hW
        have HU := Lib.hid (isBuilderF_below HU.out hb)
        replace hB := bstep hB hb
        have R8 := Lib.hid R8
        have NB : Hid (some wr.heap.size ≠ some bb) := Lib.hid (by simp only [ne_eq, Option.some.injEq]; omega)
        have LV : Hid (w.heap.size ≤ V.heap.size) := Lib.hid hB.size
        clear hW hsz hb c0 c1 c2 c3 c4 c5 c6
        have HI1 := Lib.hid (fun W (hb : Below V.heap.size V W) => HJ1.out W (HE.out.below (bstep hB hb)))
        have HI2 := Lib.hid (fun W (hb : Below V.heap.size V W) => HJ2.out W (HE.out.below (bstep hB hb)))
        have HI3 := Lib.hid (fun W (hb : Below V.heap.size V W) => HJ3.out W (HE.out.below (bstep hB hb)))
        have HK := Lib.hid (fun W (_ : Below V.heap.size V W) => op_kinds W)
        have HWs := Lib.hid (fun W (hb : Below V.heap.size V W) => Tryz.Builder_WriteString_k w.heap.size bb _ T14 W (isBuilderF_below HU.out hb) (by rw [HBC.out]; exact HLk.out) (Nat.le_trans LV.out hb.size))
        have LR8 := fun (w' : World) (h : Pw w.heap.size wr.heap.size (.cells #[.int .i64 a1, .int .i64 a2, .int .i64 a3, .int .i64 3, .string s1, .string s2, .string s3] 26 (0, 0)) V w') => rowc7 h.row
        have hv0 := Below.refl V.heap.size V
        have hs0 : Pw w.heap.size wr.heap.size (.cells #[.int .i64 a1, .int .i64 a2, .int .i64 a3, .int .i64 3, .string s1, .string s2, .string s3] 26 (0, 0)) V V := Pw.of_below LV.out R8.out hv0
        first
        | go_region_held3 (fun w' => Pw w.heap.size wr.heap.size (.cells #[.int .i64 a1, .int .i64 a2, .int .i64 a3, .int .i64 3, .string s1, .string s2, .string s3] 26 (0, 0)) V w') (first | (with_reducible assumption) | (with_reducible exact Pw.drew (by assumption)))
            (first
              | (go_at_call 90; (with_reducible refine (HI1.out _ (by first | with_reducible exact hv0 | with_reducible exact Below.drew hv0)).mono ?_); rintro e wq0 ⟨rfl, hb⟩; have hv1 : Below V.heap.size V wq0 := (by first | with_reducible exact bstep hv0 hb | with_reducible exact bstep (Below.drew hv0) hb); have hs1 : Pw w.heap.size wr.heap.size (.cells #[.int .i64 a1, .int .i64 a2, .int .i64 a3, .int .i64 3, .string s1, .string s2, .string s3] 26 (0, 0)) V wq0 := Pw.of_below LV.out R8.out hv1; clear hb)
              | (go_at_call 90; (with_reducible refine (HI2.out _ (by first | with_reducible exact hv1 | with_reducible exact Below.drew hv1)).mono ?_); rintro e wq1 ⟨rfl, hb⟩; have hv2 : Below V.heap.size V wq1 := (by first | with_reducible exact bstep hv1 hb | with_reducible exact bstep (Below.drew hv1) hb); have hs2 : Pw w.heap.size wr.heap.size (.cells #[.int .i64 a1, .int .i64 a2, .int .i64 a3, .int .i64 3, .string s1, .string s2, .string s3] 26 (0, 0)) V wq1 := Pw.of_below LV.out R8.out hv2; clear hb)
              | (go_at_call 90; (with_reducible refine (HI3.out _ (by first | with_reducible exact hv2 | with_reducible exact Below.drew hv2)).mono ?_); rintro e wq2 ⟨rfl, hb⟩; have hv3 : Below V.heap.size V wq2 := (by first | with_reducible exact bstep hv2 hb | with_reducible exact bstep (Below.drew hv2) hb); have hs3 : Pw w.heap.size wr.heap.size (.cells #[.int .i64 a1, .int .i64 a2, .int .i64 a3, .int .i64 3, .string s1, .string s2, .string s3] 26 (0, 0)) V wq2 := Pw.of_below LV.out R8.out hv3; clear hb)
              | (go_at_call 91; (with_reducible refine (HK.out _ (by first | with_reducible exact hv3 | with_reducible exact Below.drew hv3)).mono ?_); rintro e wq3 ⟨rfl, hb⟩; have hv4 : Below V.heap.size V wq3 := (by first | with_reducible exact bstep hv3 hb | with_reducible exact bstep (Below.drew hv3) hb); have hs4 : Pw w.heap.size wr.heap.size (.cells #[.int .i64 a1, .int .i64 a2, .int .i64 a3, .int .i64 3, .string s1, .string s2, .string s3] 26 (0, 0)) V wq3 := Pw.of_below LV.out R8.out hv4; clear hb)
              | (go_at_call 89; (with_reducible refine (HWs.out _ (by first | with_reducible exact hv4 | with_reducible exact Below.drew hv4)).mono ?_); rintro e wq4 ⟨rfl, hu4, hb4, ho4⟩; have hs5 : Pw w.heap.size wr.heap.size (.cells #[.int .i64 a1, .int .i64 a2, .int .i64 a3, .int .i64 3, .string s1, .string s2, .string s3] 26 (0, 0)) V wq4 := ⟨(Below.mono (by first | with_reducible exact hv4 | with_reducible exact Below.drew hv4) LV.out).trans hb4, ho4 _ _ (keep (by first | with_reducible exact hv4 | with_reducible exact Below.drew hv4) R8.out) NB.out (fun _ _ h => by cases h)⟩; have HU4 := Lib.hid hu4; clear hu4 ho4 hb4))
        | fail
        all_goals
          go_wp2_with fail
          go_roundw
          case rel => exact ⟨k + 1, by omega, by go_num, hB.trans hs5.base, Lib.hid (.inr (by rw [HSC.out, Lib.byteCells_append]; exact HU4.out))⟩
          case measure => simp [intOf]; omega
    · have hkn : k = n := by omega
      subst hkn
      have HT := Lib.hid (Tryz.Builder_String_any_f w.heap.size bb _ wr HU.out hB.size)
      go_wp2_with fail
      refine HT.out.mono ?_
      rintro e w3 ⟨rfl, _, hb⟩
      go_wp2_with fail
      go_ret2
      exact ⟨rfl, hB.trans hb⟩

end Go.Proofs.YthkkdepppjiaeaaGreatDoor

/- The example of the chapter of layer 31. -/
namespace Go.Proofs.YthkkdepppjiaeaaGreatDoor
open Go.RowKit Go.Shelf Go.Sort

attribute [local go_sem] Oper.semAt_some

theorem q31_3 : rs 3 = ⟨#[51]⟩ := (rs_one rfl).trans (iS_q1 (k := 3) (by decide) rfl)
theorem q31_4 : rs 4 = ⟨#[52]⟩ := (rs_one rfl).trans (iS_q1 (k := 4) (by decide) rfl)
theorem q31_5 : rs 5 = ⟨#[53]⟩ := (rs_one rfl).trans (iS_q1 (k := 5) (by decide) rfl)
theorem q31_6 : rs 6 = ⟨#[54]⟩ := (rs_one rfl).trans (iS_q1 (k := 6) (by decide) rfl)
theorem q31_m2 : rs (-2) = ⟨#[45, 50]⟩ := (rs_one rfl).trans (iS_qn (k := 2) (by decide) (by decide) rfl)
theorem x31_in0 : inR 0 0 = true := by decide +kernel
theorem x31_in1 : inR 1 0 = true := by decide +kernel
theorem x31_up0 : (turnV 0 0 ⟨1, 2, 5⟩).z = 5 := by
  unfold turnV axU dotV
  decide +kernel
theorem x31_up1 : (turnV 1 0 ⟨1, 2, 5⟩).z = -2 := by
  unfold turnV axU dotV
  decide +kernel

theorem x31_wet0 (w : World) (hE : Env w) :
    Calls Tryz.prog 14 #[.agg #[.int .i64 3, .int .i64 0, .int .i64 2, .int .i64 1, .string ⟨#[49]⟩, .string ⟨#[50]⟩, .string ⟨#[53]⟩], .agg #[.string ⟨#[48]⟩, .string ⟨#[48]⟩, .string ⟨#[53]⟩, .string ⟨#[54]⟩]] w fun e w' => e = .returned (.tuple #[.int .i64 2, .int .i64 0]) ∧ Below w.heap.size w w' := by
  have h := op_WetA 3 0 2 1 (rs 0, rs 0) (rs 1, rs 2, rs 5) (rs 5) (rs 6) w hE (by unfold ShH; rw [rs_0, lit_1, lit_2, q31_5]; decide) (by rw [q31_5]; decide) (by rw [q31_6]; decide)
  unfold wetR wetC hcode hokB ivOk upX vvB vvX at h
  simp only [rvB_rs, rvX_rs, x31_in0, x31_up0, Bool.and_self] at h
  rw [show (true && decide (cmpQ 5 6 ≤ 0)) = true by decide +kernel, show wetX 5 5 6 = 2 by decide +kernel] at h
  simp only [Bool.and_self, if_true, rs_0, lit_1, lit_2, q31_5, q31_6] at h
  exact h

theorem x31_wet1 (w : World) (hE : Env w) :
    Calls Tryz.prog 14 #[.agg #[.int .i64 3, .int .i64 0, .int .i64 2, .int .i64 1, .string ⟨#[49]⟩, .string ⟨#[50]⟩, .string ⟨#[53]⟩], .agg #[.string ⟨#[48]⟩, .string ⟨#[48]⟩, .string ⟨#[51]⟩, .string ⟨#[52]⟩]] w fun e w' => e = .returned (.tuple #[.int .i64 0, .int .i64 0]) ∧ Below w.heap.size w w' := by
  have h := op_WetA 3 0 2 1 (rs 0, rs 0) (rs 1, rs 2, rs 5) (rs 3) (rs 4) w hE (by unfold ShH; rw [rs_0, lit_1, lit_2, q31_5]; decide) (by rw [q31_3]; decide) (by rw [q31_4]; decide)
  unfold wetR wetC hcode hokB ivOk upX vvB vvX at h
  simp only [rvB_rs, rvX_rs, x31_in0, x31_up0, Bool.and_self] at h
  rw [show (true && decide (cmpQ 3 4 ≤ 0)) = true by decide +kernel, show wetX 5 3 4 = 0 by decide +kernel] at h
  simp only [Bool.and_self, if_true, rs_0, lit_1, lit_2, q31_3, q31_4, q31_5] at h
  exact h

theorem x31_wet2 (w : World) (hE : Env w) :
    Calls Tryz.prog 14 #[.agg #[.int .i64 3, .int .i64 0, .int .i64 2, .int .i64 1, .string ⟨#[49]⟩, .string ⟨#[50]⟩, .string ⟨#[53]⟩], .agg #[.string ⟨#[48]⟩, .string ⟨#[48]⟩, .string ⟨#[52]⟩, .string ⟨#[54]⟩]] w fun e w' => e = .returned (.tuple #[.int .i64 1, .int .i64 0]) ∧ Below w.heap.size w w' := by
  have h := op_WetA 3 0 2 1 (rs 0, rs 0) (rs 1, rs 2, rs 5) (rs 4) (rs 6) w hE (by unfold ShH; rw [rs_0, lit_1, lit_2, q31_5]; decide) (by rw [q31_4]; decide) (by rw [q31_6]; decide)
  unfold wetR wetC hcode hokB ivOk upX vvB vvX at h
  simp only [rvB_rs, rvX_rs, x31_in0, x31_up0, Bool.and_self] at h
  rw [show (true && decide (cmpQ 4 6 ≤ 0)) = true by decide +kernel, show wetX 5 4 6 = 1 by decide +kernel] at h
  simp only [Bool.and_self, if_true, rs_0, lit_1, lit_2, q31_4, q31_5, q31_6] at h
  exact h

theorem x31_height (w : World) (hE : Env w) :
    Calls Tryz.prog 18 #[.agg #[.int .i64 3, .int .i64 0, .int .i64 2, .int .i64 1, .string ⟨#[49]⟩, .string ⟨#[50]⟩, .string ⟨#[53]⟩], .agg #[.string ⟨#[49]⟩, .string ⟨#[48]⟩]] w fun e w' => e = .returned (.tuple #[.string ⟨#[45, 50]⟩, .int .i64 0]) ∧ Below w.heap.size w w' := by
  have h := op_HeightA 3 0 2 1 (rs 1, rs 0) (rs 1, rs 2, rs 5) w hE (by unfold ShH; rw [rs_0, lit_1, lit_2, q31_5]; decide)
  unfold hgtR hcode hokB upX vvB vvX at h
  simp only [rvB_rs, rvX_rs, x31_in1, x31_up1, Bool.and_self] at h
  simp only [if_true, rs_0, lit_1, lit_2, q31_5, q31_m2] at h
  exact h

theorem itoa_q1 {k : Nat} {c : UInt8} (h : k < 10) (hc : c = UInt8.ofNat (48 + k)) : (⟨(Lib.itoa (k : Int)).toArray⟩ : ByteArray) = ⟨#[c]⟩ := by
  have e : Lib.itoa (k : Int) = [c] := by
    unfold Lib.itoa
    rw [if_neg (by omega), Int.toNat_natCast, Lib.decDigits, dif_pos h, hc]
  rw [e]
def op31 : Opn := ⟨3, 0, 2, 1, (⟨#[49]⟩, ⟨#[50]⟩, ⟨#[53]⟩)⟩
theorem x31_line : lnB op31 = ⟨#[111, 112, 101, 110, 105, 110, 103, 32, 51, 32, 102, 114, 111, 109, 32, 48, 32, 116, 111, 32, 50, 32, 117, 110, 112, 114, 111, 116, 101, 99, 116, 101, 100, 32, 97, 116, 32, 49, 32, 50, 32, 53, 10]⟩ := by
  unfold lnB op31
  simp only
  rw [show (⟨(Lib.itoa 3).toArray⟩ : ByteArray) = ⟨#[51]⟩ from itoa_q1 (k := 3) (by decide) rfl, show (⟨(Lib.itoa 0).toArray⟩ : ByteArray) = ⟨#[48]⟩ from itoa_q1 (k := 0) (by decide) rfl, show (⟨(Lib.itoa 2).toArray⟩ : ByteArray) = ⟨#[50]⟩ from itoa_q1 (k := 2) (by decide) rfl, show kwB 1 = ⟨#[117, 110, 112, 114, 111, 116, 101, 99, 116, 101, 100]⟩ from rfl]
  decide
theorem x31_C : ∀ i, i < 1 → opC (fun _ => op31) i = 0 := by
  intro i hi
  obtain rfl : i = 0 := by omega
  unfold opC
  have hv : vvB op31.pt = true := by
    show (rvB ⟨#[49]⟩ && rvB ⟨#[50]⟩ && rvB ⟨#[53]⟩) = true
    rw [← lit_1, ← lit_2, ← q31_5, rvB_rs, rvB_rs, rvB_rs]
    rfl
  rw [if_neg (fun h => h (by decide)), if_neg (fun h => absurd h.1 (by decide)), if_neg (by decide), if_pos hv]
theorem x31_print (N : Nat) (t : TypeId) (w : World) (hE : Env w) (h : w.heap[N]? = some (.cells #[.int .i64 3, .int .i64 0, .int .i64 2, .int .i64 1, .string ⟨#[49]⟩, .string ⟨#[50]⟩, .string ⟨#[53]⟩] t (0, 0))) :
    Calls Tryz.prog 45 #[.slice (some ⟨N, 0, none⟩) 1 1] w fun e w' => e = .returned (.tuple #[.string ⟨#[111, 112, 101, 110, 105, 110, 103, 32, 51, 32, 102, 114, 111, 109, 32, 48, 32, 116, 111, 32, 50, 32, 117, 110, 112, 114, 111, 116, 101, 99, 116, 101, 100, 32, 97, 116, 32, 49, 32, 50, 32, 53, 10]⟩, .int .i64 0]) ∧ Below w.heap.size w w' := by
  obtain ⟨c0, c1, c2, c3, c4, c5, c6⟩ := rowc7 h
  have hS : OpsAt w N 0 1 (fun _ => op31) := fun i hi => by
    obtain rfl : i = 0 := by omega
    exact ⟨c0, c1, c2, c3, c4, c5, c6⟩
  have hk := op_Print_ok (some ⟨N, 0, none⟩) N 0 1 1 (fun _ => op31) w hE (by decide) (fun _ => rfl) hS x31_C (fun i hi => by rw [x31_line]; decide)
    (fun W hb => op_Check (some ⟨N, 0, none⟩) N 0 1 1 (fun _ => op31) (-1) 0 W (hE.below hb) (by decide) (fun _ => rfl) (hS.below hb) (fun i hi => by show ShV (⟨#[49]⟩, ⟨#[50]⟩, ⟨#[53]⟩); unfold ShV; decide) (fun _ => ⟨rfl, rfl⟩) (fun i hi _ h2 => absurd (x31_C i hi) h2))
  have e : (⟨(prT (fun _ => op31) 1).toArray⟩ : ByteArray) = ⟨#[111, 112, 101, 110, 105, 110, 103, 32, 51, 32, 102, 114, 111, 109, 32, 48, 32, 116, 111, 32, 50, 32, 117, 110, 112, 114, 111, 116, 101, 99, 116, 101, 100, 32, 97, 116, 32, 49, 32, 50, 32, 53, 10]⟩ := by
    rw [prT_succ, x31_line]
    rfl
  rw [e] at hk
  exact hk

theorem pos31_row : RowTy Tryz.prog 32 4 := rowTy_struct Tryz.underlying32 (by kernel_rfl)


set_option maxRecDepth 100000 in
set_option maxHeartbeats 4000000 in
theorem x31_level (a b : ByteArray) (w : World) : Calls Tryz.prog 48 #[.string a, .string b] w fun e w' => e = .returned (.agg #[.string ⟨#[48]⟩, .string ⟨#[48]⟩, .string a, .string b]) ∧ Below w.heap.size w w' := by
  go_enter Tryz.func48, Tryz.ntmps48
  go_wp2_with fail
  exact bodyPost_ret (res_c rfl pos31_row rfl (heap_alloc_new _ _) rfl) rfl ⟨rfl, (A1 rfl).1⟩


set_option maxRecDepth 100000 in
set_option maxHeartbeats 4000000 in
theorem la31_awake (w : World) (hE : Env w) : Calls Tryz.prog 10 #[] w fun e w' => e = .returned (.bool true) ∧ Below w.heap.size w w' := by
  have HLV := Lib.hid x31_level
  have HWT0 := Lib.hid (fun w hE => x31_wet0 w hE)
  have HWT1 := Lib.hid (fun w hE => x31_wet1 w hE)
  have HWT2 := Lib.hid (fun w hE => x31_wet2 w hE)
  have HHT := Lib.hid (fun w hE => x31_height w hE)
  have HPR := Lib.hid (fun N t w hE h => x31_print N t w hE h)
  have HE := Lib.hid hE
  clear hE
  go_enter Tryz.func10, Tryz.ntmps10
  go_upto_region 3 with fail
  generalize hW : World.alloc w _ = W0
  obtain ⟨hB, hsz, R1⟩ := A1 hW
  have R1 := Lib.hid R1
  clear hW hsz
  have T1 := Lib.hid (fun Y (_ : Below W0.heap.size W0 Y) => HLV.out ⟨#[53]⟩ ⟨#[54]⟩ Y)
  have T2 := Lib.hid (fun Y (hb : Below W0.heap.size W0 Y) => HWT0.out Y (HE.out.below (bstep hB hb)))
  have LR1 := fun (w' : World) (h : Ap W0.heap.size W0.heap.size W0 w') => rowc7 (h.rowV R1.out)
  have hvr := Below.refl W0.heap.size W0
  have hv0 := hvr.drew
  first
  | go_region_held3 (fun w' => Ap W0.heap.size W0.heap.size W0 w') (first | (with_reducible assumption) | (with_reducible exact Ap.refl _ _ _) | ((repeat (first | with_reducible assumption | with_reducible exact Ap.refl _ _ _ | with_reducible refine Ap.drew ?_ | with_reducible refine Ap.alloc ?_ | with_reducible refine Ap.set1 ?_ | with_reducible refine Ap.set2 ?_ | with_reducible refine Ap.setN (by first | with_reducible assumption | with_reducible exact Nat.le_refl _ | with_reducible exact Nat.le_add_right _ _ | with_reducible exact Nat.le_trans (by assumption) (Nat.le_add_right _ _)) ?_)); done))
      (first
        | (go_at_call 48; (with_reducible refine (T1.out _ (by first | with_reducible exact hv0)).mono ?_); rintro e wq0 ⟨rfl, hb⟩; have hv1 : Below W0.heap.size W0 wq0 := (by first | with_reducible exact bstep (hv0) hb); have hs1 := Ap.of_below (g := W0.heap.size) (h := W0.heap.size) hv1; have sz1 := hv1.size; clear hb)
        | (go_at_call 14; (with_reducible refine (T2.out _ (by first | with_reducible exact hv1)).mono ?_); rintro e wq1 ⟨rfl, hb⟩; have hv2 : Below W0.heap.size W0 wq1 := (by first | with_reducible exact bstep (hv1) hb); have hs2 := Ap.of_below (g := W0.heap.size) (h := W0.heap.size) hv2; have sz2 := hv2.size; clear hb))
  | fail
  all_goals
    clear T1 T2
    replace hB := bstep hB hv2
    have R1 := Lib.hid (keep hv2 R1.out)
    clear LR1 hvr hv0 hv1 hv2 hs1 hs2 sz1 sz2
    obtain ⟨Y0, hY⟩ : ∃ Y, Y = wq1 := ⟨_, rfl⟩
    subst hY
  go_upto_region 4 with fail
  have T1 := Lib.hid (fun Y (_ : Below Y0.heap.size Y0 Y) => HLV.out ⟨#[51]⟩ ⟨#[52]⟩ Y)
  have T2 := Lib.hid (fun Y (hb : Below Y0.heap.size Y0 Y) => HWT1.out Y (HE.out.below (bstep hB hb)))
  have LR1 := fun (w' : World) (h : Ap Y0.heap.size Y0.heap.size Y0 w') => rowc7 (h.rowV R1.out)
  have hvr := Below.refl Y0.heap.size Y0
  have hv0 := hvr.drew
  first
  | go_region_held3 (fun w' => Ap Y0.heap.size Y0.heap.size Y0 w') (first | (with_reducible assumption) | (with_reducible exact Ap.refl _ _ _) | ((repeat (first | with_reducible assumption | with_reducible exact Ap.refl _ _ _ | with_reducible refine Ap.drew ?_ | with_reducible refine Ap.alloc ?_ | with_reducible refine Ap.set1 ?_ | with_reducible refine Ap.set2 ?_ | with_reducible refine Ap.setN (by first | with_reducible assumption | with_reducible exact Nat.le_refl _ | with_reducible exact Nat.le_add_right _ _ | with_reducible exact Nat.le_trans (by assumption) (Nat.le_add_right _ _)) ?_)); done))
      (first
        | (go_at_call 48; (with_reducible refine (T1.out _ (by first | with_reducible exact hv0)).mono ?_); rintro e wq0 ⟨rfl, hb⟩; have hv1 : Below Y0.heap.size Y0 wq0 := (by first | with_reducible exact bstep (hv0) hb); have hs1 := Ap.of_below (g := Y0.heap.size) (h := Y0.heap.size) hv1; have sz1 := hv1.size; clear hb)
        | (go_at_call 14; (with_reducible refine (T2.out _ (by first | with_reducible exact hv1)).mono ?_); rintro e wq1 ⟨rfl, hb⟩; have hv2 : Below Y0.heap.size Y0 wq1 := (by first | with_reducible exact bstep (hv1) hb); have hs2 := Ap.of_below (g := Y0.heap.size) (h := Y0.heap.size) hv2; have sz2 := hv2.size; clear hb))
  | fail
  all_goals
    clear T1 T2
    replace hB := bstep hB hv2
    have R1 := Lib.hid (keep hv2 R1.out)
    clear LR1 hvr hv0 hv1 hv2 hs1 hs2 sz1 sz2
    obtain ⟨Y1, hY⟩ : ∃ Y, Y = wq1 := ⟨_, rfl⟩
    subst hY
  go_upto_region 5 with fail
  have T1 := Lib.hid (fun Y (_ : Below Y1.heap.size Y1 Y) => HLV.out ⟨#[52]⟩ ⟨#[54]⟩ Y)
  have T2 := Lib.hid (fun Y (hb : Below Y1.heap.size Y1 Y) => HWT2.out Y (HE.out.below (bstep hB hb)))
  have LR1 := fun (w' : World) (h : Ap Y1.heap.size Y1.heap.size Y1 w') => rowc7 (h.rowV R1.out)
  have hvr := Below.refl Y1.heap.size Y1
  have hv0 := hvr.drew
  first
  | go_region_held3 (fun w' => Ap Y1.heap.size Y1.heap.size Y1 w') (first | (with_reducible assumption) | (with_reducible exact Ap.refl _ _ _) | ((repeat (first | with_reducible assumption | with_reducible exact Ap.refl _ _ _ | with_reducible refine Ap.drew ?_ | with_reducible refine Ap.alloc ?_ | with_reducible refine Ap.set1 ?_ | with_reducible refine Ap.set2 ?_ | with_reducible refine Ap.setN (by first | with_reducible assumption | with_reducible exact Nat.le_refl _ | with_reducible exact Nat.le_add_right _ _ | with_reducible exact Nat.le_trans (by assumption) (Nat.le_add_right _ _)) ?_)); done))
      (first
        | (go_at_call 48; (with_reducible refine (T1.out _ (by first | with_reducible exact hv0)).mono ?_); rintro e wq0 ⟨rfl, hb⟩; have hv1 : Below Y1.heap.size Y1 wq0 := (by first | with_reducible exact bstep (hv0) hb); have hs1 := Ap.of_below (g := Y1.heap.size) (h := Y1.heap.size) hv1; have sz1 := hv1.size; clear hb)
        | (go_at_call 14; (with_reducible refine (T2.out _ (by first | with_reducible exact hv1)).mono ?_); rintro e wq1 ⟨rfl, hb⟩; have hv2 : Below Y1.heap.size Y1 wq1 := (by first | with_reducible exact bstep (hv1) hb); have hs2 := Ap.of_below (g := Y1.heap.size) (h := Y1.heap.size) hv2; have sz2 := hv2.size; clear hb))
  | fail
  all_goals
    clear T1 T2
    replace hB := bstep hB hv2
    have R1 := Lib.hid (keep hv2 R1.out)
    clear LR1 hvr hv0 hv1 hv2 hs1 hs2 sz1 sz2
    obtain ⟨Y2, hY⟩ : ∃ Y, Y = wq1 := ⟨_, rfl⟩
    subst hY
    obtain ⟨R1c0, R1c1, R1c2, R1c3, R1c4, R1c5, R1c6, R1f0, R1f1, R1f2, R1f3, R1f4, R1f5, R1f6⟩ := row7 R1.out
    go_wp2_with fail
    clear R1c0 R1c1 R1c2 R1c3 R1c4 R1c5 R1c6 R1f0 R1f1 R1f2 R1f3 R1f4 R1f5 R1f6
    refine (HHT.out _ (HE.out.below hB)).mono ?_
    rintro e w6 ⟨rfl, hb⟩
    replace hB := bstep hB hb
    have R1 := Lib.hid (keep hb R1.out)
    clear hb
    obtain ⟨R1c0, R1c1, R1c2, R1c3, R1c4, R1c5, R1c6, R1f0, R1f1, R1f2, R1f3, R1f4, R1f5, R1f6⟩ := row7 R1.out
    go_wp2_with fail
    clear R1c0 R1c1 R1c2 R1c3 R1c4 R1c5 R1c6 R1f0 R1f1 R1f2 R1f3 R1f4 R1f5 R1f6
    generalize hW : World.alloc _ _ = V
    obtain ⟨hb, hsz, R2⟩ := A1 hW
    replace hB := bstep hB hb
    have R1 := Lib.hid (keep hb R1.out)
    clear hb
    have R2 := Lib.hid R2
    clear hW hsz
    refine (HPR.out _ _ _ (HE.out.below hB) R2.out).mono ?_
    rintro e w7 ⟨rfl, hb⟩
    replace hB := bstep hB hb
    clear hb
    go_wp2_with fail
    go_ret
    exact ⟨rfl, hB⟩

end Go.Proofs.YthkkdepppjiaeaaGreatDoor
