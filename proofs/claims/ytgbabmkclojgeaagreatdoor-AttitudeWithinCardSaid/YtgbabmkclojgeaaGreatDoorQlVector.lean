/- A PART OF THE PROOF, JOINED OUT OF 2 TEXTS. -/
import Derived.Test.YtgbabmkclojgeaaGreatDoorQkRef
/- Walks of the program's package vector at texts that are no numbers: apply, Scale, Dot, Det; and all of them at whatever texts. -/
namespace Go.Proofs.YtgbabmkclojgeaaGreatDoor
open Go.RowKit Go.Shelf Go.Sort

attribute [local go_sem] Oper.semAt_some

/-- The vector with three texts. -/
noncomputable def vvX (s : ByteArray × ByteArray × ByteArray) : V3 := ⟨rvX s.1, rvX s.2.1, rvX s.2.2⟩
/-- Texts that are short enough. -/
def Sh6 (s : ByteArray × ByteArray × ByteArray) : Prop := s.1.size ≤ 1000000 ∧ s.2.1.size ≤ 1000000 ∧ s.2.2.size ≤ 1000000
@[reducible] def txW (s : ByteArray × ByteArray × ByteArray) : Value := .agg #[.string s.1, .string s.2.1, .string s.2.2]
@[reducible] def e3W : Value := .agg #[.string ⟨#[]⟩, .string ⟨#[]⟩, .string ⟨#[]⟩]

set_option maxRecDepth 100000 in
set_option maxHeartbeats 4000000 in
theorem ve_apply_err (g : Nat) (a0 a1 a2 b0 b1 b2 : ByteArray) (w : World) (hE : Env w) (ha : ShV (a0, a1, a2)) (hb : ShV (b0, b1, b2)) (hc : chk2 (a0, a1, a2) (b0, b1, b2) = 1) :
    Calls Tryz.prog 68 #[fnV g, .agg #[.string a0, .string a1, .string a2], .agg #[.string b0, .string b1, .string b2]] w fun e w' => e = .returned (.tuple #[e3W, .int .i64 1]) ∧ Below w.heap.size w w' := by
  have hC := fun N t W hE h => ve_check2 (N := N) (t := t) ha hb W hE h
  rw [hc] at hC
  have HC := Lib.hid hC
  have HE := Lib.hid hE
  clear hE ha hb hc hC
  go_enter Tryz.func68, Tryz.ntmps68
  go_wp2_with fail
  generalize hW : (((World.alloc w _).alloc _).alloc _).alloc _ = W
  obtain ⟨hB, hsz, R4, R5, R6, RS⟩ := A4 hW
  have R4 := Lib.hid R4
  have R5 := Lib.hid R5
  have R6 := Lib.hid R6
  have RS := Lib.hid RS
  clear hW hsz
  refine (HC.out _ _ _ (HE.out.below hB) RS.out).mono ?_
  rintro e w1 ⟨rfl, hb⟩
  replace hB := bstep hB hb
  have R6 := Lib.hid (keep hb R6.out)
  clear hb
  obtain ⟨R6c0, R6c1, R6c2, R6f0, R6f1, R6f2⟩ := row3 R6.out
  go_wp2_with fail
  exact bodyPost_ret (res_ct rfl vec_row rfl (store3 R6.out _ _ _) rfl) rfl ⟨rfl, store3_below hB (by omega) _ _ _⟩

set_option maxRecDepth 100000 in
set_option maxHeartbeats 4000000 in
theorem ve_Dot_err (a0 a1 a2 b0 b1 b2 : ByteArray) (w : World) (hE : Env w) (ha : ShV (a0, a1, a2)) (hb : ShV (b0, b1, b2)) (hc : chk2 (a0, a1, a2) (b0, b1, b2) = 1) :
    Calls Tryz.prog 26 #[.agg #[.string a0, .string a1, .string a2], .agg #[.string b0, .string b1, .string b2]] w fun e w' => e = .returned (.tuple #[.string ⟨#[]⟩, .int .i64 1]) ∧ Below w.heap.size w w' := by
  have hC := fun N t W hE h => ve_check2 (N := N) (t := t) ha hb W hE h
  rw [hc] at hC
  have HC := Lib.hid hC
  have HE := Lib.hid hE
  clear hE ha hb hc hC
  go_enter Tryz.func26, Tryz.ntmps26
  go_wp2_with fail
  generalize hW : ((World.alloc w _).alloc _).alloc _ = W
  obtain ⟨hB, hsz, R2, R3, RS⟩ := A3 hW
  have R2 := Lib.hid R2
  have R3 := Lib.hid R3
  have RS := Lib.hid RS
  clear hW hsz
  refine (HC.out _ _ _ (HE.out.below hB) RS.out).mono ?_
  rintro e w1 ⟨rfl, hb⟩
  replace hB := bstep hB hb
  clear hb
  go_wp2_with fail
  exact bodyPost_ret (results_tmp2 rfl _ _ _) rfl ⟨rfl, hB⟩

set_option maxRecDepth 100000 in
set_option maxHeartbeats 4000000 in
theorem ve_Det_err (a0 a1 a2 b0 b1 b2 c0 c1 c2 : ByteArray) (w : World) (hE : Env w) (ha : ShV (a0, a1, a2)) (hb : ShV (b0, b1, b2)) (hc : ShV (c0, c1, c2)) (hk : chk3 (a0, a1, a2) (b0, b1, b2) (c0, c1, c2) = 1) :
    Calls Tryz.prog 30 #[.agg #[.string a0, .string a1, .string a2], .agg #[.string b0, .string b1, .string b2], .agg #[.string c0, .string c1, .string c2]] w fun e w' => e = .returned (.tuple #[.string ⟨#[]⟩, .int .i64 1]) ∧ Below w.heap.size w w' := by
  have hC := fun N t W hE h => ve_check3 (N := N) (t := t) ha hb hc W hE h
  rw [hk] at hC
  have HC := Lib.hid hC
  have HE := Lib.hid hE
  clear hE ha hb hc hC hk
  go_enter Tryz.func30, Tryz.ntmps30
  go_wp2_with fail
  generalize hW : (((World.alloc w _).alloc _).alloc _).alloc _ = W
  obtain ⟨hB, hsz, R2, R3, R4, RS⟩ := A4 hW
  have R2 := Lib.hid R2
  have R3 := Lib.hid R3
  have R4 := Lib.hid R4
  have RS := Lib.hid RS
  clear hW hsz
  refine (HC.out _ _ _ (HE.out.below hB) RS.out).mono ?_
  rintro e w1 ⟨rfl, hb⟩
  replace hB := bstep hB hb
  clear hb
  go_wp2_with fail
  exact bodyPost_ret (results_tmp2 rfl _ _ _) rfl ⟨rfl, hB⟩

set_option maxRecDepth 100000 in
set_option maxHeartbeats 4000000 in
theorem ve_Scale_err (a0 a1 a2 t : ByteArray) (w : World) (hE : Env w) (ha : ShV (a0, a1, a2)) (ht : t.size ≤ 10000000) (hc : (vvB (a0, a1, a2) && rvB t) = false) :
    Calls Tryz.prog 24 #[.agg #[.string a0, .string a1, .string a2], .string t] w fun e w' => e = .returned (.tuple #[e3W, .int .i64 1]) ∧ Below w.heap.size w w' := by
  have hV := fun w hE => ve_Valid a0 a1 a2 w hE ha.1 ha.2.1 ha.2.2
  rw [show (rvB a0 && rvB a1 && rvB a2) = vvB (a0, a1, a2) from rfl] at hV
  have HV := Lib.hid hV
  have HR := Lib.hid (fun w hE => ra_Valid t w hE ht)
  have HE := Lib.hid hE
  clear hE ha ht hV
  generalize vvB (a0, a1, a2) = v1 at *
  generalize rvB t = v2 at *
  cases v1
  · clear hc
    go_enter Tryz.func24, Tryz.ntmps24
    go_wp2_with fail
    generalize hW : (World.alloc w _).alloc _ = W
    obtain ⟨hB, hsz, R2, R4⟩ := A2 hW
    have R2 := Lib.hid R2
    have R4 := Lib.hid R4
    clear hW hsz
    refine (HV.out _ (HE.out.below hB)).mono ?_
    rintro e w1 ⟨rfl, hb⟩
    replace hB := bstep hB hb
    have R4 := Lib.hid (keep hb R4.out)
    clear hb
    obtain ⟨R4c0, R4c1, R4c2, R4f0, R4f1, R4f2⟩ := row3 R4.out
    go_wp2_with fail
    exact bodyPost_ret (res_ct rfl vec_row rfl (store3 R4.out _ _ _) rfl) rfl ⟨rfl, store3_below hB (by omega) _ _ _⟩
  · cases v2
    · clear hc
      go_enter Tryz.func24, Tryz.ntmps24
      go_wp2_with fail
      generalize hW : (World.alloc w _).alloc _ = W
      obtain ⟨hB, hsz, R2, R4⟩ := A2 hW
      have R2 := Lib.hid R2
      have R4 := Lib.hid R4
      clear hW hsz
      refine (HV.out _ (HE.out.below hB)).mono ?_
      rintro e w1 ⟨rfl, hb⟩
      replace hB := bstep hB hb
      have R4 := Lib.hid (keep hb R4.out)
      clear hb
      go_wp2_with fail
      refine (HR.out _ (HE.out.below hB)).mono ?_
      rintro e w2 ⟨rfl, hb⟩
      replace hB := bstep hB hb
      have R4 := Lib.hid (keep hb R4.out)
      clear hb
      obtain ⟨R4c0, R4c1, R4c2, R4f0, R4f1, R4f2⟩ := row3 R4.out
      go_wp2_with fail
      exact bodyPost_ret (res_ct rfl vec_row rfl (store3 R4.out _ _ _) rfl) rfl ⟨rfl, store3_below hB (by omega) _ _ _⟩
    · exact absurd hc (by decide)
end Go.Proofs.YtgbabmkclojgeaaGreatDoor

/- The program's package vector at whatever short texts: Add, Sub, Cross, Scale, Dot, Det. -/
namespace Go.Proofs.YtgbabmkclojgeaaGreatDoor
open Go.RowKit Go.Shelf Go.Sort

attribute [local go_sem] Oper.semAt_some

theorem vv_text {s : ByteArray × ByteArray × ByteArray} (h : vvB s = true) : s = (rs (vvX s).x, rs (vvX s).y, rs (vvX s).z) := by
  obtain ⟨a, b, c⟩ := s
  unfold vvB at h
  simp only [Bool.and_eq_true] at h
  obtain ⟨x, hx⟩ := (rvB_iff a).1 h.1.1
  obtain ⟨y, hy⟩ := (rvB_iff b).1 h.1.2
  obtain ⟨z, hz⟩ := (rvB_iff c).1 h.2
  subst hx hy hz
  unfold vvX
  simp only [rvX_rs]
theorem szV_text {s : ByteArray × ByteArray × ByteArray} (h : Sh20 s) : SzV 21 (vvX s) := ⟨sz_rvX h.1 (by decide), sz_rvX h.2.1 (by decide), sz_rvX h.2.2 (by decide)⟩
theorem sh20_V {s : ByteArray × ByteArray × ByteArray} (h : Sh20 s) : ShV s := ⟨Nat.le_trans h.1 (by decide), Nat.le_trans h.2.1 (by decide), Nat.le_trans h.2.2 (by decide)⟩
theorem sh20_6 {s : ByteArray × ByteArray × ByteArray} (h : Sh20 s) : Sh6 s := ⟨Nat.le_trans h.1 (by decide), Nat.le_trans h.2.1 (by decide), Nat.le_trans h.2.2 (by decide)⟩
/-- What is handed back: the vector, or none. -/
def vres (ok : Bool) (z : V3) : Value := if ok = true then vV z else e3W
def qres (ok : Bool) (z : Rat) : Value := if ok = true then .string (rs z) else .string ⟨#[]⟩
def eres (ok : Bool) : Int := if ok = true then 0 else 1
theorem chk2_eq (s t : ByteArray × ByteArray × ByteArray) : chk2 s t = eres (vvB s && vvB t) := by
  unfold chk2 eres
  cases vvB s <;> cases vvB t <;> simp
theorem chk3_eq (s t u : ByteArray × ByteArray × ByteArray) : chk3 s t u = eres (vvB s && vvB t && vvB u) := by
  unfold chk3 eres
  cases vvB s <;> cases vvB t <;> cases vvB u <;> simp


set_option maxRecDepth 100000 in
set_option maxHeartbeats 4000000 in
theorem ve_Add_err (a0 a1 a2 b0 b1 b2 : ByteArray) (w : World) (hE : Env w) (ha : ShV (a0, a1, a2)) (hb : ShV (b0, b1, b2)) (hc : chk2 (a0, a1, a2) (b0, b1, b2) = 1) :
    Calls Tryz.prog 20 #[.agg #[.string a0, .string a1, .string a2], .agg #[.string b0, .string b1, .string b2]] w fun e w' => e = .returned (.tuple #[e3W, .int .i64 1]) ∧ Below w.heap.size w w' := by
  have HP := Lib.hid (fun w hE => ve_apply_err 69 a0 a1 a2 b0 b1 b2 w hE ha hb hc)
  have HE := Lib.hid hE
  clear hE ha hb hc
  go_enter Tryz.func20, Tryz.ntmps20
  go_wp2_with fail
  generalize hW : ((World.alloc w _).alloc _).alloc _ = W
  obtain ⟨hB, hsz, R2, R3, R4⟩ := A3 hW
  have R2 := Lib.hid R2
  have R3 := Lib.hid R3
  have R4 := Lib.hid R4
  clear hW hsz
  refine (HP.out _ (HE.out.below hB)).mono ?_
  rintro e w1 ⟨rfl, hb⟩
  replace hB := bstep hB hb
  have R4 := Lib.hid (keep hb R4.out)
  clear hb
  obtain ⟨R4c0, R4c1, R4c2, R4f0, R4f1, R4f2⟩ := row3 R4.out
  go_wp2_with fail
  exact bodyPost_ret (res_ct rfl vec_row rfl (store3 R4.out _ _ _) rfl) rfl ⟨rfl, store3_below hB (by omega) _ _ _⟩
theorem ve_AddA (s t : ByteArray × ByteArray × ByteArray) (w : World) (hE : Env w) (hs : Sh20 s) (ht : Sh20 t) :
    Calls Tryz.prog 20 #[txW s, txW t] w fun e w' => e = .returned (.tuple #[vres (vvB s && vvB t) (addV (vvX s) (vvX t)), .int .i64 (eres (vvB s && vvB t))]) ∧ Below w.heap.size w w' := by
  cases hv : (vvB s && vvB t) with
  | true =>
    rw [Bool.and_eq_true] at hv
    have e1 := vv_text hv.1
    have e2 := vv_text hv.2
    have := ve_Add (vvX s) (vvX t) w hE ((szV_text hs).mono (by decide)) ((szV_text ht).mono (by decide))
    unfold vV at this
    unfold txW
    rw [show s.1 = rs (vvX s).x from congrArg Prod.fst e1, show s.2.1 = rs (vvX s).y from congrArg (fun q => q.2.1) e1, show s.2.2 = rs (vvX s).z from congrArg (fun q => q.2.2) e1, show t.1 = rs (vvX t).x from congrArg Prod.fst e2, show t.2.1 = rs (vvX t).y from congrArg (fun q => q.2.1) e2, show t.2.2 = rs (vvX t).z from congrArg (fun q => q.2.2) e2]
    exact this
  | false => exact ve_Add_err _ _ _ _ _ _ w hE (sh20_V hs) (sh20_V ht) (by rw [chk2_eq]; show eres (vvB s && vvB t) = 1; rw [hv]; rfl)


set_option maxRecDepth 100000 in
set_option maxHeartbeats 4000000 in
theorem ve_Sub_err (a0 a1 a2 b0 b1 b2 : ByteArray) (w : World) (hE : Env w) (ha : ShV (a0, a1, a2)) (hb : ShV (b0, b1, b2)) (hc : chk2 (a0, a1, a2) (b0, b1, b2) = 1) :
    Calls Tryz.prog 22 #[.agg #[.string a0, .string a1, .string a2], .agg #[.string b0, .string b1, .string b2]] w fun e w' => e = .returned (.tuple #[e3W, .int .i64 1]) ∧ Below w.heap.size w w' := by
  have HP := Lib.hid (fun w hE => ve_apply_err 75 a0 a1 a2 b0 b1 b2 w hE ha hb hc)
  have HE := Lib.hid hE
  clear hE ha hb hc
  go_enter Tryz.func22, Tryz.ntmps22
  go_wp2_with fail
  generalize hW : ((World.alloc w _).alloc _).alloc _ = W
  obtain ⟨hB, hsz, R2, R3, R4⟩ := A3 hW
  have R2 := Lib.hid R2
  have R3 := Lib.hid R3
  have R4 := Lib.hid R4
  clear hW hsz
  refine (HP.out _ (HE.out.below hB)).mono ?_
  rintro e w1 ⟨rfl, hb⟩
  replace hB := bstep hB hb
  have R4 := Lib.hid (keep hb R4.out)
  clear hb
  obtain ⟨R4c0, R4c1, R4c2, R4f0, R4f1, R4f2⟩ := row3 R4.out
  go_wp2_with fail
  exact bodyPost_ret (res_ct rfl vec_row rfl (store3 R4.out _ _ _) rfl) rfl ⟨rfl, store3_below hB (by omega) _ _ _⟩
theorem ve_SubA (s t : ByteArray × ByteArray × ByteArray) (w : World) (hE : Env w) (hs : Sh20 s) (ht : Sh20 t) :
    Calls Tryz.prog 22 #[txW s, txW t] w fun e w' => e = .returned (.tuple #[vres (vvB s && vvB t) (subV (vvX s) (vvX t)), .int .i64 (eres (vvB s && vvB t))]) ∧ Below w.heap.size w w' := by
  cases hv : (vvB s && vvB t) with
  | true =>
    rw [Bool.and_eq_true] at hv
    have e1 := vv_text hv.1
    have e2 := vv_text hv.2
    have := ve_Sub (vvX s) (vvX t) w hE ((szV_text hs).mono (by decide)) ((szV_text ht).mono (by decide))
    unfold vV at this
    unfold txW
    rw [show s.1 = rs (vvX s).x from congrArg Prod.fst e1, show s.2.1 = rs (vvX s).y from congrArg (fun q => q.2.1) e1, show s.2.2 = rs (vvX s).z from congrArg (fun q => q.2.2) e1, show t.1 = rs (vvX t).x from congrArg Prod.fst e2, show t.2.1 = rs (vvX t).y from congrArg (fun q => q.2.1) e2, show t.2.2 = rs (vvX t).z from congrArg (fun q => q.2.2) e2]
    exact this
  | false => exact ve_Sub_err _ _ _ _ _ _ w hE (sh20_V hs) (sh20_V ht) (by rw [chk2_eq]; show eres (vvB s && vvB t) = 1; rw [hv]; rfl)


set_option maxRecDepth 100000 in
set_option maxHeartbeats 4000000 in
theorem ve_Cross_err (a0 a1 a2 b0 b1 b2 : ByteArray) (w : World) (hE : Env w) (ha : ShV (a0, a1, a2)) (hb : ShV (b0, b1, b2)) (hc : chk2 (a0, a1, a2) (b0, b1, b2) = 1) :
    Calls Tryz.prog 28 #[.agg #[.string a0, .string a1, .string a2], .agg #[.string b0, .string b1, .string b2]] w fun e w' => e = .returned (.tuple #[e3W, .int .i64 1]) ∧ Below w.heap.size w w' := by
  have HP := Lib.hid (fun w hE => ve_apply_err 85 a0 a1 a2 b0 b1 b2 w hE ha hb hc)
  have HE := Lib.hid hE
  clear hE ha hb hc
  go_enter Tryz.func28, Tryz.ntmps28
  go_wp2_with fail
  generalize hW : ((World.alloc w _).alloc _).alloc _ = W
  obtain ⟨hB, hsz, R2, R3, R4⟩ := A3 hW
  have R2 := Lib.hid R2
  have R3 := Lib.hid R3
  have R4 := Lib.hid R4
  clear hW hsz
  refine (HP.out _ (HE.out.below hB)).mono ?_
  rintro e w1 ⟨rfl, hb⟩
  replace hB := bstep hB hb
  have R4 := Lib.hid (keep hb R4.out)
  clear hb
  obtain ⟨R4c0, R4c1, R4c2, R4f0, R4f1, R4f2⟩ := row3 R4.out
  go_wp2_with fail
  exact bodyPost_ret (res_ct rfl vec_row rfl (store3 R4.out _ _ _) rfl) rfl ⟨rfl, store3_below hB (by omega) _ _ _⟩
theorem ve_CrossA (s t : ByteArray × ByteArray × ByteArray) (w : World) (hE : Env w) (hs : Sh20 s) (ht : Sh20 t) :
    Calls Tryz.prog 28 #[txW s, txW t] w fun e w' => e = .returned (.tuple #[vres (vvB s && vvB t) (crossV (vvX s) (vvX t)), .int .i64 (eres (vvB s && vvB t))]) ∧ Below w.heap.size w w' := by
  cases hv : (vvB s && vvB t) with
  | true =>
    rw [Bool.and_eq_true] at hv
    have e1 := vv_text hv.1
    have e2 := vv_text hv.2
    have := ve_Cross (vvX s) (vvX t) w hE ((szV_text hs).mono (by decide)) ((szV_text ht).mono (by decide))
    unfold vV at this
    unfold txW
    rw [show s.1 = rs (vvX s).x from congrArg Prod.fst e1, show s.2.1 = rs (vvX s).y from congrArg (fun q => q.2.1) e1, show s.2.2 = rs (vvX s).z from congrArg (fun q => q.2.2) e1, show t.1 = rs (vvX t).x from congrArg Prod.fst e2, show t.2.1 = rs (vvX t).y from congrArg (fun q => q.2.1) e2, show t.2.2 = rs (vvX t).z from congrArg (fun q => q.2.2) e2]
    exact this
  | false => exact ve_Cross_err _ _ _ _ _ _ w hE (sh20_V hs) (sh20_V ht) (by rw [chk2_eq]; show eres (vvB s && vvB t) = 1; rw [hv]; rfl)


theorem ve_DotA (s t : ByteArray × ByteArray × ByteArray) (w : World) (hE : Env w) (hs : Sh20 s) (ht : Sh20 t) :
    Calls Tryz.prog 26 #[txW s, txW t] w fun e w' => e = .returned (.tuple #[qres (vvB s && vvB t) (dotV (vvX s) (vvX t)), .int .i64 (eres (vvB s && vvB t))]) ∧ Below w.heap.size w w' := by
  cases hv : (vvB s && vvB t) with
  | true =>
    rw [Bool.and_eq_true] at hv
    have es := vv_text hv.1
    have et := vv_text hv.2
    have := ve_Dot (vvX s) (vvX t) w hE ((szV_text hs).mono (by decide)) ((szV_text ht).mono (by decide))
    unfold vV at this
    unfold txW
    rw [show s.1 = rs (vvX s).x from congrArg Prod.fst es, show s.2.1 = rs (vvX s).y from congrArg (fun q => q.2.1) es, show s.2.2 = rs (vvX s).z from congrArg (fun q => q.2.2) es, show t.1 = rs (vvX t).x from congrArg Prod.fst et, show t.2.1 = rs (vvX t).y from congrArg (fun q => q.2.1) et, show t.2.2 = rs (vvX t).z from congrArg (fun q => q.2.2) et]
    exact this
  | false => exact ve_Dot_err _ _ _ _ _ _ w hE (sh20_V hs) (sh20_V ht) (by rw [chk2_eq]; show eres (vvB s && vvB t) = 1; rw [hv]; rfl)
theorem ve_DetA (s t u : ByteArray × ByteArray × ByteArray) (w : World) (hE : Env w) (hs : Sh20 s) (ht : Sh20 t) (hu : Sh20 u) :
    Calls Tryz.prog 30 #[txW s, txW t, txW u] w fun e w' => e = .returned (.tuple #[qres (vvB s && vvB t && vvB u) (detV (vvX s) (vvX t) (vvX u)), .int .i64 (eres (vvB s && vvB t && vvB u))]) ∧ Below w.heap.size w w' := by
  cases hv : (vvB s && vvB t && vvB u) with
  | true =>
    rw [Bool.and_eq_true, Bool.and_eq_true] at hv
    have es := vv_text hv.1.1
    have et := vv_text hv.1.2
    have eu := vv_text hv.2
    have := ve_Det (vvX s) (vvX t) (vvX u) w hE ((szV_text hs).mono (by decide)) ((szV_text ht).mono (by decide)) ((szV_text hu).mono (by decide))
    unfold vV at this
    unfold txW
    rw [show s.1 = rs (vvX s).x from congrArg Prod.fst es, show s.2.1 = rs (vvX s).y from congrArg (fun q => q.2.1) es, show s.2.2 = rs (vvX s).z from congrArg (fun q => q.2.2) es, show t.1 = rs (vvX t).x from congrArg Prod.fst et, show t.2.1 = rs (vvX t).y from congrArg (fun q => q.2.1) et, show t.2.2 = rs (vvX t).z from congrArg (fun q => q.2.2) et, show u.1 = rs (vvX u).x from congrArg Prod.fst eu, show u.2.1 = rs (vvX u).y from congrArg (fun q => q.2.1) eu, show u.2.2 = rs (vvX u).z from congrArg (fun q => q.2.2) eu]
    exact this
  | false => exact ve_Det_err _ _ _ _ _ _ _ _ _ w hE (sh20_V hs) (sh20_V ht) (sh20_V hu) (by rw [chk3_eq]; show eres (vvB s && vvB t && vvB u) = 1; rw [hv]; rfl)
theorem ve_ScaleA (s : ByteArray × ByteArray × ByteArray) (x : ByteArray) (w : World) (hE : Env w) (hs : Sh20 s) (hx : x.size ≤ 20) :
    Calls Tryz.prog 24 #[txW s, .string x] w fun e w' => e = .returned (.tuple #[vres (vvB s && rvB x) (scaleV (vvX s) (rvX x)), .int .i64 (eres (vvB s && rvB x))]) ∧ Below w.heap.size w w' := by
  cases hv : (vvB s && rvB x) with
  | true =>
    rw [Bool.and_eq_true] at hv
    have es := vv_text hv.1
    obtain ⟨y, hy⟩ := (rvB_iff x).1 hv.2
    have zy := sz_rvX hx (by decide)
    subst hy
    rw [rvX_rs] at zy ⊢
    have := ve_Scale (vvX s) y w hE ((szV_text hs).mono (by decide)) (zy.mono (by decide))
    unfold vV at this
    unfold txW
    rw [show s.1 = rs (vvX s).x from congrArg Prod.fst es, show s.2.1 = rs (vvX s).y from congrArg (fun q => q.2.1) es, show s.2.2 = rs (vvX s).z from congrArg (fun q => q.2.2) es]
    exact this
  | false => exact ve_Scale_err _ _ _ _ w hE (sh20_V hs) (Nat.le_trans hx (by decide)) hv
theorem ve_ValidA (s : ByteArray × ByteArray × ByteArray) (w : World) (hE : Env w) (hs : Sh20 s) :
    Calls Tryz.prog 32 #[txW s] w fun e w' => e = .returned (.bool (vvB s)) ∧ Below w.heap.size w w' :=
  ve_Valid s.1 s.2.1 s.2.2 w hE (sh20_V hs).1 (sh20_V hs).2.1 (sh20_V hs).2.2
end Go.Proofs.YtgbabmkclojgeaaGreatDoor
