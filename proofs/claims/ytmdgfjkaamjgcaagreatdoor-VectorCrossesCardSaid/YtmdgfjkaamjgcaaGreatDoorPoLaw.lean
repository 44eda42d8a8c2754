/- A PART OF THE PROOF, JOINED OUT OF 4 TEXTS. -/
import Derived.Test.YtmdgfjkaamjgcaaGreatDoorPnLaw
import Derived.Test.YtmdgfjkaamjgcaaGreatDoorRows
import Derived.ProofKit
import Derived.OpenShut
import Derived.LaidMore
import Derived.Lay
import Derived.Stop.Joined
import Derived.Stop.LaidErr
import Derived.HandedShaped
import Derived.Lib.LaidTab
import Derived.Lib.SmallJoins
/- Walk of the law VectorRight. -/
namespace Go.Proofs.YtmdgfjkaamjgcaaGreatDoor
open Go.RowKit Go.Shelf Go.Sort

attribute [local go_sem] Oper.semAt_some vec_guard vec_eq

theorem mkE : (⟨#[]⟩ : ByteArray).size ≤ 9223372036854775807 := by decide

set_option maxRecDepth 100000 in
set_option maxHeartbeats 8000000 in
theorem la_right_no (a0 a1 a2 b0 b1 b2 : ByteArray) (f va vb : Bool) (w : World) (hE : Env w) (hno : (f && va && vb) = false)
    (hf : ∀ N t W, W.heap[N]? = some (.cells #[.string a0, .string a1, .string a2, .string b0, .string b1, .string b2] t (0, 0)) → Calls Tryz.prog 11 #[.agg #[.string ⟨#[]⟩, .string ⟨#[]⟩, .string ⟨#[]⟩, .string ⟨#[]⟩], .string ⟨#[]⟩, .slice (some ⟨N, 0, none⟩) 2 2] W fun e w' => e = .returned (.bool f) ∧ Below W.heap.size W w')
    (h1 : f = true → ∀ w, Env w → Calls Tryz.prog 24 #[.agg #[.string a0, .string a1, .string a2]] w fun e w' => e = .returned (.bool va) ∧ Below w.heap.size w w')
    (h2 : f = true → ∀ w, Env w → Calls Tryz.prog 24 #[.agg #[.string b0, .string b1, .string b2]] w fun e w' => e = .returned (.bool vb) ∧ Below w.heap.size w w') :
    Calls Tryz.prog 5 #[.agg #[.string a0, .string a1, .string a2], .agg #[.string b0, .string b1, .string b2]] w fun e w' => e = .returned (.bool true) ∧ Below w.heap.size w w' := by
  have HF := Lib.hid hf
  have H1 := Lib.hid h1
  have H2 := Lib.hid h2
  have HE := Lib.hid hE
  clear hE hf h1 h2
  cases f <;> cases va <;> cases vb
  any_goals (exfalso; revert hno; decide)
  all_goals
    clear hno
    go_enter Tryz.func5, Tryz.ntmps5
    go_wp2_with fail
    generalize hW : (World.alloc w _).alloc _ = W
    obtain ⟨hB, hsz, R2, R3⟩ := A2 hW
    have R2 := Lib.hid R2
    have R3 := Lib.hid R3
    clear hW hsz
    refine (la_awake _ (HE.out.below hB)).mono ?_
    rintro e w1 ⟨rfl, hb⟩
    replace hB := bstep hB hb
    have R2 := Lib.hid (keep hb R2.out)
    have R3 := Lib.hid (keep hb R3.out)
    clear hb
    obtain ⟨R2c0, R2c1, R2c2, R2f0, R2f1, R2f2⟩ := row3 R2.out
    obtain ⟨R3c0, R3c1, R3c2, R3f0, R3f1, R3f2⟩ := row3 R3.out
    go_wp2_with fail
    clear R2c0 R2c1 R2c2 R2f0 R2f1 R2f2
    clear R3c0 R3c1 R3c2 R3f0 R3f1 R3f2
    generalize hW : World.alloc _ _ = X
    obtain ⟨hb, hsz, RS⟩ := A1 hW
    replace hB := bstep hB hb
    have R2 := Lib.hid (keep hb R2.out)
    have R3 := Lib.hid (keep hb R3.out)
    clear hb
    have RS := Lib.hid RS
    clear hW hsz
    refine (HF.out _ _ _ RS.out).mono ?_
    rintro e w2 ⟨rfl, hb⟩
    replace hB := bstep hB hb
    have R2 := Lib.hid (keep hb R2.out)
    have R3 := Lib.hid (keep hb R3.out)
    clear hb RS
    obtain ⟨R2c0, R2c1, R2c2, R2f0, R2f1, R2f2⟩ := row3 R2.out
    go_wp2_with fail
    clear R2c0 R2c1 R2c2 R2f0 R2f1 R2f2
    first
    | (refine (la_awake _ (HE.out.below hB)).mono ?_
       rintro e w3 ⟨rfl, hb⟩
       go_wp2_with fail
       go_ret
       exact ⟨rfl, bstep hB hb⟩)
    | skip
  all_goals
    have HA := Lib.hid (H1.out (by trivial))
    have HA2 := Lib.hid (H2.out (by trivial))
    refine (HA.out _ (HE.out.below hB)).mono ?_
    rintro e w3 ⟨rfl, hb⟩
    replace hB := bstep hB hb
    have R3 := Lib.hid (keep hb R3.out)
    clear hb
    obtain ⟨R3c0, R3c1, R3c2, R3f0, R3f1, R3f2⟩ := row3 R3.out
    go_wp2_with fail
    clear R3c0 R3c1 R3c2 R3f0 R3f1 R3f2
    first
    | (refine (la_awake _ (HE.out.below hB)).mono ?_
       rintro e w4 ⟨rfl, hb⟩
       go_wp2_with fail
       go_ret
       exact ⟨rfl, bstep hB hb⟩)
    | (refine (HA2.out _ (HE.out.below hB)).mono ?_
       rintro e w4 ⟨rfl, hb⟩
       replace hB := bstep hB hb
       clear hb
       go_wp2_with fail
       refine (la_awake _ (HE.out.below hB)).mono ?_
       rintro e w5 ⟨rfl, hb⟩
       go_wp2_with fail
       go_ret
       exact ⟨rfl, bstep hB hb⟩)

set_option maxRecDepth 100000 in
set_option maxHeartbeats 8000000 in
theorem la_right_yes (a0 a1 a2 b0 b1 b2 c0 c1 c2 d0 d1 d2 aa bb ab cc p s : ByteArray) (w : World) (hE : Env w)
    (hf : ∀ N t W, W.heap[N]? = some (.cells #[.string a0, .string a1, .string a2, .string b0, .string b1, .string b2] t (0, 0)) → Calls Tryz.prog 11 #[.agg #[.string ⟨#[]⟩, .string ⟨#[]⟩, .string ⟨#[]⟩, .string ⟨#[]⟩], .string ⟨#[]⟩, .slice (some ⟨N, 0, none⟩) 2 2] W fun e w' => e = .returned (.bool true) ∧ Below W.heap.size W w')
    (h1 : ∀ w, Env w → Calls Tryz.prog 24 #[.agg #[.string a0, .string a1, .string a2]] w fun e w' => e = .returned (.bool true) ∧ Below w.heap.size w w')
    (h2 : ∀ w, Env w → Calls Tryz.prog 24 #[.agg #[.string b0, .string b1, .string b2]] w fun e w' => e = .returned (.bool true) ∧ Below w.heap.size w w')
    (h3 : ∀ w, Env w → Calls Tryz.prog 20 #[.agg #[.string a0, .string a1, .string a2], .agg #[.string b0, .string b1, .string b2]] w fun e w' => e = .returned (.tuple #[.agg #[.string c0, .string c1, .string c2], .int .i64 0]) ∧ Below w.heap.size w w')
    (h4 : ∀ w, Env w → Calls Tryz.prog 20 #[.agg #[.string b0, .string b1, .string b2], .agg #[.string a0, .string a1, .string a2]] w fun e w' => e = .returned (.tuple #[.agg #[.string d0, .string d1, .string d2], .int .i64 0]) ∧ Below w.heap.size w w')
    (h5 : ∀ w, Env w → Calls Tryz.prog 16 #[.agg #[.string d0, .string d1, .string d2], .string ⟨#[45, 49]⟩] w fun e w' => e = .returned (.tuple #[.agg #[.string c0, .string c1, .string c2], .int .i64 0]) ∧ Below w.heap.size w w')
    (h6 : ∀ w, Env w → Calls Tryz.prog 18 #[.agg #[.string a0, .string a1, .string a2], .agg #[.string c0, .string c1, .string c2]] w fun e w' => e = .returned (.tuple #[.string ⟨#[48]⟩, .int .i64 0]) ∧ Below w.heap.size w w')
    (h7 : ∀ w, Env w → Calls Tryz.prog 18 #[.agg #[.string b0, .string b1, .string b2], .agg #[.string c0, .string c1, .string c2]] w fun e w' => e = .returned (.tuple #[.string ⟨#[48]⟩, .int .i64 0]) ∧ Below w.heap.size w w')
    (h8 : ∀ w, Env w → Calls Tryz.prog 18 #[.agg #[.string a0, .string a1, .string a2], .agg #[.string a0, .string a1, .string a2]] w fun e w' => e = .returned (.tuple #[.string aa, .int .i64 0]) ∧ Below w.heap.size w w')
    (h9 : ∀ w, Env w → Calls Tryz.prog 18 #[.agg #[.string b0, .string b1, .string b2], .agg #[.string b0, .string b1, .string b2]] w fun e w' => e = .returned (.tuple #[.string bb, .int .i64 0]) ∧ Below w.heap.size w w')
    (h10 : ∀ w, Env w → Calls Tryz.prog 18 #[.agg #[.string a0, .string a1, .string a2], .agg #[.string b0, .string b1, .string b2]] w fun e w' => e = .returned (.tuple #[.string ab, .int .i64 0]) ∧ Below w.heap.size w w')
    (h11 : ∀ w, Env w → Calls Tryz.prog 18 #[.agg #[.string c0, .string c1, .string c2], .agg #[.string c0, .string c1, .string c2]] w fun e w' => e = .returned (.tuple #[.string cc, .int .i64 0]) ∧ Below w.heap.size w w')
    (h12 : ∀ w, Env w → Calls Tryz.prog 32 #[.string aa, .string bb] w fun e w' => e = .returned (.tuple #[.string p, .int .i64 0]) ∧ Below w.heap.size w w')
    (h13 : ∀ w, Env w → Calls Tryz.prog 32 #[.string ab, .string ab] w fun e w' => e = .returned (.tuple #[.string s, .int .i64 0]) ∧ Below w.heap.size w w')
    (h14 : ∀ w, Env w → Calls Tryz.prog 33 #[.string p, .string s] w fun e w' => e = .returned (.tuple #[.string cc, .int .i64 0]) ∧ Below w.heap.size w w') :
    Calls Tryz.prog 5 #[.agg #[.string a0, .string a1, .string a2], .agg #[.string b0, .string b1, .string b2]] w fun e w' => e = .returned (.bool true) ∧ Below w.heap.size w w' := by
  have HF := Lib.hid hf
  have H1 := Lib.hid h1
  have H2 := Lib.hid h2
  have H3 := Lib.hid h3
  have H4 := Lib.hid h4
  have H5 := Lib.hid h5
  have H6 := Lib.hid h6
  have H7 := Lib.hid h7
  have H8 := Lib.hid h8
  have H9 := Lib.hid h9
  have H10 := Lib.hid h10
  have H11 := Lib.hid h11
  have H12 := Lib.hid h12
  have H13 := Lib.hid h13
  have H14 := Lib.hid h14
  have HE := Lib.hid hE
  clear hE hf h1 h2 h3 h4 h5 h6 h7 h8 h9 h10 h11 h12 h13 h14
  go_enter Tryz.func5, Tryz.ntmps5
  go_wp2_with fail
  generalize hW : (World.alloc w _).alloc _ = W
  obtain ⟨hB, hsz, R2, R3⟩ := A2 hW
  have R2 := Lib.hid R2
  have R3 := Lib.hid R3
  clear hW hsz
  refine (la_awake _ (HE.out.below hB)).mono ?_
  rintro e w1 ⟨rfl, hb⟩
  replace hB := bstep hB hb
  have R2 := Lib.hid (keep hb R2.out)
  have R3 := Lib.hid (keep hb R3.out)
  clear hb
  obtain ⟨R2c0, R2c1, R2c2, R2f0, R2f1, R2f2⟩ := row3 R2.out
  obtain ⟨R3c0, R3c1, R3c2, R3f0, R3f1, R3f2⟩ := row3 R3.out
  go_wp2_with fail
  clear R2c0 R2c1 R2c2 R2f0 R2f1 R2f2
  clear R3c0 R3c1 R3c2 R3f0 R3f1 R3f2
  generalize hW : World.alloc _ _ = X
  obtain ⟨hb, hsz, RS⟩ := A1 hW
  replace hB := bstep hB hb
  have R2 := Lib.hid (keep hb R2.out)
  have R3 := Lib.hid (keep hb R3.out)
  clear hb
  have RS := Lib.hid RS
  clear hW hsz
  refine (HF.out _ _ _ RS.out).mono ?_
  rintro e w2 ⟨rfl, hb⟩
  replace hB := bstep hB hb
  have R2 := Lib.hid (keep hb R2.out)
  have R3 := Lib.hid (keep hb R3.out)
  clear hb RS
  obtain ⟨R2c0, R2c1, R2c2, R2f0, R2f1, R2f2⟩ := row3 R2.out
  go_wp2_with fail
  clear R2c0 R2c1 R2c2 R2f0 R2f1 R2f2
  refine (H1.out _ (HE.out.below hB)).mono ?_
  rintro e w3 ⟨rfl, hb⟩
  replace hB := bstep hB hb
  have R2 := Lib.hid (keep hb R2.out)
  have R3 := Lib.hid (keep hb R3.out)
  clear hb
  obtain ⟨R3c0, R3c1, R3c2, R3f0, R3f1, R3f2⟩ := row3 R3.out
  go_wp2_with fail
  clear R3c0 R3c1 R3c2 R3f0 R3f1 R3f2
  refine (H2.out _ (HE.out.below hB)).mono ?_
  rintro e w4 ⟨rfl, hb⟩
  replace hB := bstep hB hb
  have R2 := Lib.hid (keep hb R2.out)
  have R3 := Lib.hid (keep hb R3.out)
  clear hb
  obtain ⟨R2c0, R2c1, R2c2, R2f0, R2f1, R2f2⟩ := row3 R2.out
  obtain ⟨R3c0, R3c1, R3c2, R3f0, R3f1, R3f2⟩ := row3 R3.out
  go_wp2_with fail
  clear R2c0 R2c1 R2c2 R2f0 R2f1 R2f2
  clear R3c0 R3c1 R3c2 R3f0 R3f1 R3f2
  refine (H3.out _ (HE.out.below hB)).mono ?_
  rintro e w5 ⟨rfl, hb⟩
  replace hB := bstep hB hb
  have R2 := Lib.hid (keep hb R2.out)
  have R3 := Lib.hid (keep hb R3.out)
  clear hb
  obtain ⟨R2c0, R2c1, R2c2, R2f0, R2f1, R2f2⟩ := row3 R2.out
  obtain ⟨R3c0, R3c1, R3c2, R3f0, R3f1, R3f2⟩ := row3 R3.out
  have qR2 := lp2 R2.out
  have qR3 := lp2 R3.out
  go_wp2_with fail
  clear R2c0 R2c1 R2c2 R2f0 R2f1 R2f2
  clear R3c0 R3c1 R3c2 R3f0 R3f1 R3f2
  clear qR2 qR3
  generalize hW : World.alloc _ _ = V5
  obtain ⟨hb, hsz, R5⟩ := A1 hW
  replace hB := bstep hB hb
  have R2 := Lib.hid (keep hb R2.out)
  have R3 := Lib.hid (keep hb R3.out)
  clear hb
  have R5 := Lib.hid R5
  clear hW hsz
  refine (H4.out _ (HE.out.below hB)).mono ?_
  rintro e w6 ⟨rfl, hb⟩
  replace hB := bstep hB hb
  have R2 := Lib.hid (keep hb R2.out)
  have R3 := Lib.hid (keep hb R3.out)
  have R5 := Lib.hid (keep hb R5.out)
  clear hb
  go_wp2_with fail
  generalize hW : World.alloc _ _ = V6
  obtain ⟨hb, hsz, R7⟩ := A1 hW
  replace hB := bstep hB hb
  have R2 := Lib.hid (keep hb R2.out)
  have R3 := Lib.hid (keep hb R3.out)
  have R5 := Lib.hid (keep hb R5.out)
  clear hb
  have R7 := Lib.hid R7
  clear hW hsz
  refine (H5.out _ (HE.out.below hB)).mono ?_
  rintro e w7 ⟨rfl, hb⟩
  replace hB := bstep hB hb
  have R2 := Lib.hid (keep hb R2.out)
  have R3 := Lib.hid (keep hb R3.out)
  have R5 := Lib.hid (keep hb R5.out)
  have R7 := Lib.hid (keep hb R7.out)
  clear hb
  obtain ⟨R2c0, R2c1, R2c2, R2f0, R2f1, R2f2⟩ := row3 R2.out
  obtain ⟨R5c0, R5c1, R5c2, R5f0, R5f1, R5f2⟩ := row3 R5.out
  have qR2 := lp2 R2.out
  have qR5 := lp2 R5.out
  go_wp2_with fail
  clear R2c0 R2c1 R2c2 R2f0 R2f1 R2f2
  clear R5c0 R5c1 R5c2 R5f0 R5f1 R5f2
  clear qR2 qR5
  generalize hW : World.alloc _ _ = V7
  obtain ⟨hb, hsz, R9⟩ := A1 hW
  replace hB := bstep hB hb
  have R2 := Lib.hid (keep hb R2.out)
  have R3 := Lib.hid (keep hb R3.out)
  have R5 := Lib.hid (keep hb R5.out)
  have R7 := Lib.hid (keep hb R7.out)
  clear hb
  have R9 := Lib.hid R9
  clear hW hsz
  refine (H6.out _ (HE.out.below hB)).mono ?_
  rintro e w8 ⟨rfl, hb⟩
  replace hB := bstep hB hb
  have R2 := Lib.hid (keep hb R2.out)
  have R3 := Lib.hid (keep hb R3.out)
  have R5 := Lib.hid (keep hb R5.out)
  have R7 := Lib.hid (keep hb R7.out)
  have R9 := Lib.hid (keep hb R9.out)
  clear hb
  obtain ⟨R3c0, R3c1, R3c2, R3f0, R3f1, R3f2⟩ := row3 R3.out
  obtain ⟨R5c0, R5c1, R5c2, R5f0, R5f1, R5f2⟩ := row3 R5.out
  go_wp2_with fail
  clear R3c0 R3c1 R3c2 R3f0 R3f1 R3f2
  clear R5c0 R5c1 R5c2 R5f0 R5f1 R5f2
  refine (H7.out _ (HE.out.below hB)).mono ?_
  rintro e w9 ⟨rfl, hb⟩
  replace hB := bstep hB hb
  have R2 := Lib.hid (keep hb R2.out)
  have R3 := Lib.hid (keep hb R3.out)
  have R5 := Lib.hid (keep hb R5.out)
  have R7 := Lib.hid (keep hb R7.out)
  have R9 := Lib.hid (keep hb R9.out)
  clear hb
  obtain ⟨R2c0, R2c1, R2c2, R2f0, R2f1, R2f2⟩ := row3 R2.out
  go_wp2_with fail
  clear R2c0 R2c1 R2c2 R2f0 R2f1 R2f2
  refine (H8.out _ (HE.out.below hB)).mono ?_
  rintro e w10 ⟨rfl, hb⟩
  replace hB := bstep hB hb
  have R2 := Lib.hid (keep hb R2.out)
  have R3 := Lib.hid (keep hb R3.out)
  have R5 := Lib.hid (keep hb R5.out)
  have R7 := Lib.hid (keep hb R7.out)
  have R9 := Lib.hid (keep hb R9.out)
  clear hb
  obtain ⟨R3c0, R3c1, R3c2, R3f0, R3f1, R3f2⟩ := row3 R3.out
  go_wp2_with fail
  clear R3c0 R3c1 R3c2 R3f0 R3f1 R3f2
  refine (H9.out _ (HE.out.below hB)).mono ?_
  rintro e w11 ⟨rfl, hb⟩
  replace hB := bstep hB hb
  have R2 := Lib.hid (keep hb R2.out)
  have R3 := Lib.hid (keep hb R3.out)
  have R5 := Lib.hid (keep hb R5.out)
  have R7 := Lib.hid (keep hb R7.out)
  have R9 := Lib.hid (keep hb R9.out)
  clear hb
  obtain ⟨R2c0, R2c1, R2c2, R2f0, R2f1, R2f2⟩ := row3 R2.out
  obtain ⟨R3c0, R3c1, R3c2, R3f0, R3f1, R3f2⟩ := row3 R3.out
  go_wp2_with fail
  clear R2c0 R2c1 R2c2 R2f0 R2f1 R2f2
  clear R3c0 R3c1 R3c2 R3f0 R3f1 R3f2
  refine (H10.out _ (HE.out.below hB)).mono ?_
  rintro e w12 ⟨rfl, hb⟩
  replace hB := bstep hB hb
  have R2 := Lib.hid (keep hb R2.out)
  have R3 := Lib.hid (keep hb R3.out)
  have R5 := Lib.hid (keep hb R5.out)
  have R7 := Lib.hid (keep hb R7.out)
  have R9 := Lib.hid (keep hb R9.out)
  clear hb
  obtain ⟨R5c0, R5c1, R5c2, R5f0, R5f1, R5f2⟩ := row3 R5.out
  go_wp2_with fail
  clear R5c0 R5c1 R5c2 R5f0 R5f1 R5f2
  refine (H11.out _ (HE.out.below hB)).mono ?_
  rintro e w13 ⟨rfl, hb⟩
  replace hB := bstep hB hb
  have R2 := Lib.hid (keep hb R2.out)
  have R3 := Lib.hid (keep hb R3.out)
  have R5 := Lib.hid (keep hb R5.out)
  have R7 := Lib.hid (keep hb R7.out)
  have R9 := Lib.hid (keep hb R9.out)
  clear hb
  go_wp2_with fail
  refine (H12.out _ (HE.out.below hB)).mono ?_
  rintro e w14 ⟨rfl, hb⟩
  replace hB := bstep hB hb
  have R2 := Lib.hid (keep hb R2.out)
  have R3 := Lib.hid (keep hb R3.out)
  have R5 := Lib.hid (keep hb R5.out)
  have R7 := Lib.hid (keep hb R7.out)
  have R9 := Lib.hid (keep hb R9.out)
  clear hb
  go_wp2_with fail
  refine (H13.out _ (HE.out.below hB)).mono ?_
  rintro e w15 ⟨rfl, hb⟩
  replace hB := bstep hB hb
  have R2 := Lib.hid (keep hb R2.out)
  have R3 := Lib.hid (keep hb R3.out)
  have R5 := Lib.hid (keep hb R5.out)
  have R7 := Lib.hid (keep hb R7.out)
  have R9 := Lib.hid (keep hb R9.out)
  clear hb
  go_wp2_with fail
  refine (H14.out _ (HE.out.below hB)).mono ?_
  rintro e w16 ⟨rfl, hb⟩
  replace hB := bstep hB hb
  have R2 := Lib.hid (keep hb R2.out)
  have R3 := Lib.hid (keep hb R3.out)
  have R5 := Lib.hid (keep hb R5.out)
  have R7 := Lib.hid (keep hb R7.out)
  have R9 := Lib.hid (keep hb R9.out)
  clear hb
  obtain ⟨R5c0, R5c1, R5c2, R5f0, R5f1, R5f2⟩ := row3 R5.out
  obtain ⟨R9c0, R9c1, R9c2, R9f0, R9f1, R9f2⟩ := row3 R9.out
  go_wp2_with fail
  go_ret
  exact ⟨rfl, hB⟩
end Go.Proofs.YtmdgfjkaamjgcaaGreatDoor

/- The law VectorRight answers true at whatever strings. -/
namespace Go.Proofs.YtmdgfjkaamjgcaaGreatDoor
open Go.RowKit Go.Shelf Go.Sort

theorem rs_nl (x : Rat) : nl x.num.natAbs ≤ (rs x).size ∧ nl x.den ≤ (rs x).size + 1 := by
  have s1 := iS_nl x.num
  have s2 := nS_size x.den
  by_cases h : x.den = 1
  · rw [rs_one h]; refine ⟨s1, ?_⟩
    rw [h, show nl 1 = 1 by unfold nl; rw [Lib.decDigits]; rfl]; omega
  · rw [rs_frac h, ByteArray.size_append, ByteArray.size_append]; omega
/-- A text of at most 20 bytes that is a number. -/
theorem rat_of_text {s : ByteArray} (hs : s.size ≤ 20) (h : rvB s = true) : ∃ x, s = rs x ∧ Sz 21 x := by
  obtain ⟨x, hx⟩ := (rvB_iff s).1 h
  have := rs_nl x
  rw [← hx] at this
  exact ⟨x, hx, by omega, by omega⟩
theorem vec_of_text {a0 a1 a2 : ByteArray} (hs : Sh20 (a0, a1, a2)) (h : (rvB a0 && rvB a1 && rvB a2) = true) : ∃ a : V3, a0 = rs a.x ∧ a1 = rs a.y ∧ a2 = rs a.z ∧ SzV 21 a := by
  rw [Bool.and_eq_true, Bool.and_eq_true] at h
  obtain ⟨x, hx, zx⟩ := rat_of_text hs.1 h.1.1
  obtain ⟨y, hy, zy⟩ := rat_of_text hs.2.1 h.1.2
  obtain ⟨z, hz, zz⟩ := rat_of_text hs.2.2 h.2
  exact ⟨⟨x, y, z⟩, hx, hy, hz, zx, zy, zz⟩

/-- The sizes of three texts that a machine can hold. -/
def Mx (s : ByteArray × ByteArray × ByteArray) : Prop := s.1.size ≤ 9223372036854775807 ∧ s.2.1.size ≤ 9223372036854775807 ∧ s.2.2.size ≤ 9223372036854775807

theorem sh_mx {s : ByteArray × ByteArray × ByteArray} (h : Sh20 s) : Mx s := ⟨Nat.le_trans h.1 (by decide), Nat.le_trans h.2.1 (by decide), Nat.le_trans h.2.2 (by decide)⟩
theorem few_two {a0 a1 a2 b0 b1 b2 : ByteArray} (ha : Mx (a0, a1, a2)) (hb : Mx (b0, b1, b2)) (f : Bool) (h0 : Sh20 (a0, a1, a2) → Sh20 (b0, b1, b2) → f = true) (h1 : ¬ (Sh20 (a0, a1, a2) ∧ Sh20 (b0, b1, b2)) → f = false) (N : Nat) (t : TypeId) (W : World)
    (h : W.heap[N]? = some (.cells #[.string a0, .string a1, .string a2, .string b0, .string b1, .string b2] t (0, 0))) :
    Calls Tryz.prog 11 #[.agg #[.string ⟨#[]⟩, .string ⟨#[]⟩, .string ⟨#[]⟩, .string ⟨#[]⟩], .string ⟨#[]⟩, .slice (some ⟨N, 0, none⟩) 2 2] W fun e w' => e = .returned (.bool f) ∧ Below W.heap.size W w' := by
  have hfew := la_few ⟨#[]⟩ ⟨#[]⟩ ⟨#[]⟩ ⟨#[]⟩ ⟨#[]⟩ (.slice (some ⟨N, 0, none⟩) 2 2) true f W mkE mkE
    (fun N' W' h' => la_Few1 ⟨mkE, mkE, mkE⟩ true (fun _ => rfl) (fun hn => absurd ⟨by decide, by decide, by decide⟩ hn) N' W' h')
    (fun W' hB => la_Few2 ha hb f h0 h1 N W' (keep hB h))
  have e : fewR ⟨#[]⟩ ⟨#[]⟩ true f = f := by unfold fewR; cases f <;> rfl
  rwa [e] at hfew

theorem m_scale (a b : V3) : scaleV (crossV b a) (-1) = crossV a b := by
  simp only [scaleV, crossV, V3.mk.injEq]; exact ⟨by grind, by grind, by grind⟩
theorem m_dot1 (a b : V3) : dotV a (crossV a b) = 0 := by simp only [dotV, crossV]; grind
theorem m_dot2 (a b : V3) : dotV b (crossV a b) = 0 := by simp only [dotV, crossV]; grind
theorem m_lagrange (a b : V3) : dotV a a * dotV b b - dotV a b * dotV a b = dotV (crossV a b) (crossV a b) := by simp only [dotV, crossV]; grind

theorem la_right_rs (a b : V3) (w : World) (hE : Env w) (ha : SzV 21 a) (hb : SzV 21 b) (sa : Sh20 (rs a.x, rs a.y, rs a.z)) (sb : Sh20 (rs b.x, rs b.y, rs b.z)) :
    Calls Tryz.prog 5 #[vV a, vV b] w fun e w' => e = .returned (.bool true) ∧ Below w.heap.size w w' := by
  have hc := szV_cross ha hb
  have hd := szV_cross hb ha
  have s1 : Sz 2 (-1 : Rat) := sz_small (by decide) rfl
  have up : ∀ {k : Nat} {v : V3}, SzV k v → k ≤ 500000 → SzV 500000 v := fun h k => h.mono k
  refine la_right_yes _ _ _ _ _ _ (rs (crossV a b).x) (rs (crossV a b).y) (rs (crossV a b).z) (rs (crossV b a).x) (rs (crossV b a).y) (rs (crossV b a).z) (rs (dotV a a)) (rs (dotV b b)) (rs (dotV a b)) (rs (dotV (crossV a b) (crossV a b))) (rs (dotV a a * dotV b b)) (rs (dotV a b * dotV a b)) w hE
    (fun N t W h => few_two (sh_mx sa) (sh_mx sb) true (fun _ _ => rfl) (fun hn => absurd ⟨sa, sb⟩ hn) N t W h) ?_ ?_
    (fun w hE => ve_Cross a b w hE (up ha (by decide)) (up hb (by decide))) (fun w hE => ve_Cross b a w hE (up hb (by decide)) (up ha (by decide))) ?_ ?_ ?_
    (fun w hE => ve_Dot a a w hE (up ha (by decide)) (up ha (by decide))) (fun w hE => ve_Dot b b w hE (up hb (by decide)) (up hb (by decide))) (fun w hE => ve_Dot a b w hE (up ha (by decide)) (up hb (by decide))) (fun w hE => ve_Dot _ _ w hE (up hc (by decide)) (up hc (by decide)))
    (fun w hE => ra_Mul _ _ w hE ((sz_dot ha ha).mono (by decide)) ((sz_dot hb hb).mono (by decide))) (fun w hE => ra_Mul _ _ w hE ((sz_dot ha hb).mono (by decide)) ((sz_dot ha hb).mono (by decide))) ?_
  · intro w hE
    have h := ve_Valid (rs a.x) (rs a.y) (rs a.z) w hE (sh_of ha (by decide)).1 (sh_of ha (by decide)).2.1 (sh_of ha (by decide)).2.2
    rwa [rvB_rs, rvB_rs, rvB_rs] at h
  · intro w hE
    have h := ve_Valid (rs b.x) (rs b.y) (rs b.z) w hE (sh_of hb (by decide)).1 (sh_of hb (by decide)).2.1 (sh_of hb (by decide)).2.2
    rwa [rvB_rs, rvB_rs, rvB_rs] at h
  · intro w hE
    have h := ve_Scale (crossV b a) (-1) w hE (up hd (by decide)) (s1.mono (by decide))
    rwa [m_scale, km1] at h
  · intro w hE
    have h := ve_Dot a (crossV a b) w hE (up ha (by decide)) (up hc (by decide))
    rwa [m_dot1, rs_0] at h
  · intro w hE
    have h := ve_Dot b (crossV a b) w hE (up hb (by decide)) (up hc (by decide))
    rwa [m_dot2, rs_0] at h
  · intro w hE
    have h := ra_Sub (dotV a a * dotV b b) (dotV a b * dotV a b) w hE ((sz_mul (sz_dot ha ha) (sz_dot hb hb)).mono (by decide)) ((sz_mul (sz_dot ha hb) (sz_dot ha hb)).mono (by decide))
    rwa [m_lagrange] at h

theorem la_right (a0 a1 a2 b0 b1 b2 : ByteArray) (w : World) (hE : Env w) (ha : Mx (a0, a1, a2)) (hb : Mx (b0, b1, b2)) :
    Calls Tryz.prog 5 #[.agg #[.string a0, .string a1, .string a2], .agg #[.string b0, .string b1, .string b2]] w fun e w' => e = .returned (.bool true) ∧ Below w.heap.size w w' := by
  by_cases hs : Sh20 (a0, a1, a2) ∧ Sh20 (b0, b1, b2)
  · obtain ⟨sa, sb⟩ := hs
    have fw : ∀ {s : ByteArray}, s.size ≤ 20 → s.size ≤ 10000000 := fun h => Nat.le_trans h (by decide)
    by_cases hv : (rvB a0 && rvB a1 && rvB a2) = true ∧ (rvB b0 && rvB b1 && rvB b2) = true
    · obtain ⟨a, h0, h1, h2, za⟩ := vec_of_text sa hv.1
      obtain ⟨b, g0, g1, g2, zb⟩ := vec_of_text sb hv.2
      subst h0 h1 h2 g0 g1 g2
      exact la_right_rs a b w hE za zb sa sb
    · refine la_right_no a0 a1 a2 b0 b1 b2 true _ _ w hE ?_ (fun N t W h => few_two ha hb true (fun _ _ => rfl) (fun hn => absurd ⟨sa, sb⟩ hn) N t W h)
        (fun _ w hE => ve_Valid a0 a1 a2 w hE (fw sa.1) (fw sa.2.1) (fw sa.2.2)) (fun _ w hE => ve_Valid b0 b1 b2 w hE (fw sb.1) (fw sb.2.1) (fw sb.2.2))
      cases h1 : (rvB a0 && rvB a1 && rvB a2) <;> cases h2 : (rvB b0 && rvB b1 && rvB b2)
      · rfl
      · rfl
      · rfl
      · exact absurd ⟨h1, h2⟩ hv
  · exact la_right_no a0 a1 a2 b0 b1 b2 false true true w hE rfl (fun N t W h => few_two ha hb false (fun k1 k2 => absurd ⟨k1, k2⟩ hs) (fun _ => rfl) N t W h)
      (fun h => by cases h) (fun h => by cases h)
end Go.Proofs.YtmdgfjkaamjgcaaGreatDoor

/- From the rows' own conditions to the walks' contracts: the listed table, the world's shape, the witness, a vector opened and shut. -/
namespace Go.Proofs.YtmdgfjkaamjgcaaGreatDoor
open Go.ChangeShapes Go.WideShapes Go.ChangeAt Go.ChangeMaps Go.RowKit Go.Deep

theorem own : ownKnob Tryz.prog.godebug = none := by kernel_rfl

/-- What every row of this seat lists. -/
abbrev laidL : List (String × DataW Unit) := [("math/bits.deBruijn32tab", Rows.laid_math_bits_deBruijn32tab), ("math/bits.deBruijn64tab", Rows.laid_math_bits_deBruijn64tab), ("internal/strconv.uint64pow10", Rows.laid_internal_strconv_uint64pow10), ("strconv.ErrRange", Rows.laid_strconv_ErrRange), ("strconv.ErrSyntax", Rows.laid_strconv_ErrSyntax)]

theorem laid_pow10 : (Rows.laid_internal_strconv_uint64pow10 : DataW Unit) = Lib.tabData .u64 Lib.pow10Tab := by kernel_rfl
theorem env_of_laid {W : World} (h : laidMetH Tryz.prog laidL W) (hs : W.ShapedOpen Tryz.prog) : Env W := by
  rw [MakeChecks.laidMetH_plain _ _ _ (by kernel_rfl)] at h
  have h3 := h.tail.tail
  rw [laid_pow10] at h3
  exact ⟨Lib.tabIs_of_head (g := 3) (t := 253) (e := 152) (n := 20) (by kernel_rfl) (by kernel_rfl) (by kernel_rfl) (by kernel_rfl) (by kernel_rfl) (by kernel_rfl) h3, hs⟩

/-- The plain wrap, the world's shape kept, one condition more. -/
theorem handed_and_shaped {H : Type} {enc : TypeId × Value → H} {a : Assume} {C : Checked} {os : Os} {f : FuncId} {fn : Func} {s : ChangeSpec} {conds : List PathCond} {apart fresh handsOn again : Bool} {X : World → Array Value → Prop}
    (hX : ∀ (w w' : World) (args : Array Value), w.heap = w'.heap → X w args → X w' args)
    (own : ownKnob C.prog.godebug = none) (started : os.Started) (noInit : C.prog.inits.idxOf? f = none) (hfn : C.prog.funcs[f]? = some fn)
    (witness : ∃ (w : World) (tape : Tape) (i : Input), w.os = os ∧ (w.forCall tape i).Shaped C.prog ∧ i.vars = [] ∧ Input.okWide C.prog (w.forCall tape i) .any w.heap.size f i ∧
      ((s.pre enc C.prog fn conds apart (w.forCall tape i).memory i.args ∧ X (w.forCall tape i).memory i.args) ∧ sizedMet enc C.prog fn (OpenSpec.ofChange s) apart (w.forCall tape i).memory i.args) ∧ a.holds C.prog (lone (Frame.enter C.prog f i.args .normal) [] (w.forCall tape i)))
    (contract : ∀ (W : World) (base : Nat) (args : Array Value) (ds gs : List (DataW H)) (before : List MemPlace),
      (∀ (j : Nat) t v, fn.params[j]? = some t → args[j]? = some v → Value.okWide C.prog W .any base t v) →
      DataW.Whole enc C.prog fn.params.toList s.vars apart W args.toList ds gs before →
      X W args → W.ShapedOpen C.prog →
      Calls C.prog f args W fun e W' => ∃ v, e = .returned v ∧ s.post enc C.prog fn apart fresh handsOn again W args v W') :
    ReturnsInHanded a C os f .any (fun w args => (s.pre enc C.prog fn conds apart w args ∧ X w args) ∧ sizedMet enc C.prog fn (OpenSpec.ofChange s) apart w args) (s.post enc C.prog fn apart fresh handsOn again) := by
  refine returnsInHanded_of_calls own started noInit witness ?_
  intro w tape i _ hsh _ hok hpre hholds
  obtain ⟨_, _, _, fn', hfn', _, _, _, _, hval⟩ := hok
  have e : fn' = fn := Option.some.inj (hfn'.symm.trans hfn)
  subst e
  obtain ⟨⟨⟨ds, gs, before, hw, hc⟩, hx⟩, hz⟩ := hpre
  have hw' := DataW.Whole.of_heap (w' := w.forCall tape i) (by rfl) hw
  refine (contract (w.forCall tape i) w.heap.size i.args ds gs before hval hw' (hX _ _ _ (by rfl) hx) hsh).mono fun e W' ⟨v, he, hp⟩ => ?_
  subst he
  exact ChangeSpec.post_blind hp

theorem one_vec : oneCellFields Tryz.prog #[{ name := "X", type := 22, offset := 0, embedded := false, tag := "", pkgPath := "", byteOffset := 0 }, { name := "Y", type := 22, offset := 1, embedded := false, tag := "", pkgPath := "", byteOffset := 16 }, { name := "Z", type := 22, offset := 2, embedded := false, tag := "", pkgPath := "", byteOffset := 32 }] = true := by kernel_rfl
theorem cells_vec : Tryz.prog.cellsOf 24 = 3 := by kernel_rfl

theorem mx_len : maxLen ≤ 9223372036854775807 := by decide
theorem len_mx : 9223372036854775807 ≤ maxLen := by decide

section
variable {H : Type} {enc : TypeId × Value → H} {w : World} {base : Nat} {sp : Nat → Bool} {held : Bool}

set_option maxRecDepth 100000 in
theorem open_vec {r : Reach} {b0 : Nat} {v : Value} {d : DataW H} {p : List MemPlace} (hv : Value.okWide Tryz.prog w r b0 24 v) (h : DataW.Trod enc Tryz.prog w base sp held 24 v d p) :
    ∃ a0 a1 a2 : ByteArray, v = .agg #[.string a0, .string a1, .string a2] ∧ d = .agg [.lit (.string a0.data.toList), .lit (.string a1.data.toList), .lit (.string a2.data.toList)] ∧ p = [] ∧ Mx (a0, a1, a2) := by
  obtain ⟨v0, v1, v2, y0, y1, y2, n, rfl, rfl, rfl, h0, h1, h2⟩ := Joins.open_agg3 Tryz.underlying24 one_vec cells_vec hv h
  obtain ⟨s0, e0, rfl, k0⟩ := DataW.trod_string Tryz.underlying22 h0
  obtain ⟨s1, e1, rfl, k1⟩ := DataW.trod_string Tryz.underlying22 h1
  obtain ⟨s2, e2, rfl, k2⟩ := DataW.trod_string Tryz.underlying22 h2
  obtain rfl := (List.cons.inj e0).1
  obtain rfl := (List.cons.inj e1).1
  obtain rfl := (List.cons.inj e2).1
  exact ⟨s0, s1, s2, rfl, rfl, rfl, Nat.le_trans k0 mx_len, Nat.le_trans k1 mx_len, Nat.le_trans k2 mx_len⟩

theorem shut_vec {a0 a1 a2 : ByteArray} (h : Mx (a0, a1, a2)) : DataW.Trod enc Tryz.prog w base sp held 24 (.agg #[.string a0, .string a1, .string a2]) (.agg [.lit (.string a0.data.toList), .lit (.string a1.data.toList), .lit (.string a2.data.toList)]) [] := by
  have one : ∀ {s : ByteArray}, s.size ≤ 9223372036854775807 → ∃ n, DataW.trod enc Tryz.prog w base sp held n 22 [.string s] = some (.lit (.string s.data.toList), []) := by
    intro s hs
    have := shut_string (enc := enc) (w := w) (base := base) (sp := sp) (held := held) Tryz.underlying22 (Nat.le_trans hs len_mx)
    exact this
  exact Joins.shut_agg3 Tryz.underlying24 one_vec cells_vec (one h.1) (one h.2.1) (one h.2.2)
end
end Go.Proofs.YtmdgfjkaamjgcaaGreatDoor

/- From the rows' own conditions: a text opened and shut; the world that meets the condition. -/
namespace Go.Proofs.YtmdgfjkaamjgcaaGreatDoor
open Go.ChangeShapes Go.WideShapes Go.ChangeAt Go.ChangeMaps Go.RowKit Go.Deep

theorem laid_met {os : Os} {args : Array Value} : laidMetH Tryz.prog laidL ((World.laidAll Tryz.prog os laidL).forCall (fun _ _ => 0) ⟨#[], args, []⟩).memory := by
  rw [MakeChecks.laidMetH_plain _ _ _ (by kernel_rfl)]; exact laidMet_laidAll _ (by kernel_rfl) (by kernel_rfl)
theorem laid_shaped {os : Os} {args : Array Value} : ((World.laidAll Tryz.prog os laidL).forCall (fun _ _ => 0) ⟨#[], args, []⟩).Shaped Tryz.prog :=
  World.shaped_of_ZipB (by kernel_rfl) (by kernel_rfl)

section
variable {H : Type} {enc : TypeId × Value → H} {w : World} {base : Nat} {sp : Nat → Bool} {held : Bool}
set_option maxRecDepth 100000 in
theorem open_rat {r : Reach} {b0 : Nat} {v : Value} {d : DataW H} {p : List MemPlace} (hv : Value.okWide Tryz.prog w r b0 22 v) (h : DataW.Trod enc Tryz.prog w base sp held 22 v d p) :
    ∃ a : ByteArray, v = .string a ∧ d = .lit (.string a.data.toList) ∧ p = [] ∧ a.size ≤ 9223372036854775807 := by
  obtain ⟨s, e1, e2, e3, e4⟩ := open_string Tryz.underlying22 hv h
  exact ⟨s, e1, e2, e3, Nat.le_trans e4 mx_len⟩
set_option maxRecDepth 100000 in
theorem shut_rat {s : ByteArray} (h : s.size ≤ 9223372036854775807) : DataW.Trod enc Tryz.prog w base sp held 22 (.string s) (.lit (.string s.data.toList)) [] :=
  shut_string Tryz.underlying22 (Nat.le_trans h len_mx)
end
end Go.Proofs.YtmdgfjkaamjgcaaGreatDoor
