/- A PART OF THE PROOF, JOINED OUT OF 3 TEXTS. -/
import Derived.Test.YtgbabmkclojgeaaGreatDoorPnLaw
import Derived.Test.YtgbabmkclojgeaaGreatDoorQsPlanes
import Derived.Test.YtgbabmkclojgeaaGreatDoorPoLaw
/- Walks of the law VectorPlanes. -/
namespace Go.Proofs.YtgbabmkclojgeaaGreatDoor
open Go.RowKit Go.Shelf Go.Sort

attribute [local go_sem] Oper.semAt_some vec_guard vec_eq pla_guard pla_eq

set_option maxRecDepth 100000 in
set_option maxHeartbeats 16000000 in
theorem la_planes_no (p0 p1 p2 p3 a0 a1 a2 b0 b1 b2 c0 c1 c2 : ByteArray) (w : World) (hE : Env w)
    (hf : ∀ N t W, W.heap[N]? = some (.cells #[.string a0, .string a1, .string a2, .string b0, .string b1, .string b2, .string c0, .string c1, .string c2] t (0, 0)) → Calls Tryz.prog 19 #[.agg #[.string p0, .string p1, .string p2, .string p3], .string ⟨#[]⟩, .slice (some ⟨N, 0, none⟩) 3 3] W fun e w' => e = .returned (.bool false) ∧ Below W.heap.size W w') :
    Calls Tryz.prog 5 #[.agg #[.string p0, .string p1, .string p2, .string p3], .agg #[.string a0, .string a1, .string a2], .agg #[.string b0, .string b1, .string b2], .agg #[.string c0, .string c1, .string c2]] w fun e w' => e = .returned (.bool true) ∧ Below w.heap.size w w' := by
  have HF := Lib.hid hf
  have HE := Lib.hid hE
  clear hE hf 
  go_enter Tryz.func5, Tryz.ntmps5
  go_wp2_with fail
  generalize hW : (((World.alloc w _).alloc _).alloc _).alloc _ = W
  obtain ⟨hB, hsz, RP, RA, RB, RC⟩ := A4 hW
  have RP := Lib.hid RP
  have RA := Lib.hid RA
  have RB := Lib.hid RB
  have RC := Lib.hid RC
  clear hW hsz
  refine (la_awake _ (HE.out.below hB)).mono ?_
  rintro e w1 ⟨rfl, hb⟩
  replace hB := bstep hB hb
  have RP := Lib.hid (keep hb RP.out)
  have RA := Lib.hid (keep hb RA.out)
  have RB := Lib.hid (keep hb RB.out)
  have RC := Lib.hid (keep hb RC.out)
  clear hb
  obtain ⟨RPc0, RPc1, RPc2, RPc3, RPf0, RPf1, RPf2, RPf3⟩ := row4 RP.out
  obtain ⟨RAc0, RAc1, RAc2, RAf0, RAf1, RAf2⟩ := row3 RA.out
  obtain ⟨RBc0, RBc1, RBc2, RBf0, RBf1, RBf2⟩ := row3 RB.out
  obtain ⟨RCc0, RCc1, RCc2, RCf0, RCf1, RCf2⟩ := row3 RC.out
  go_wp2_with fail
  clear RPc0 RPc1 RPc2 RPc3 RPf0 RPf1 RPf2 RPf3
  clear RAc0 RAc1 RAc2 RAf0 RAf1 RAf2
  clear RBc0 RBc1 RBc2 RBf0 RBf1 RBf2
  clear RCc0 RCc1 RCc2 RCf0 RCf1 RCf2
  generalize hW : World.alloc _ _ = X
  obtain ⟨hb, hsz, RS⟩ := A1 hW
  replace hB := bstep hB hb
  have RP := Lib.hid (keep hb RP.out)
  have RA := Lib.hid (keep hb RA.out)
  have RB := Lib.hid (keep hb RB.out)
  have RC := Lib.hid (keep hb RC.out)
  clear hb
  have RS := Lib.hid RS
  clear hW hsz
  refine (HF.out _ _ _ RS.out).mono ?_
  rintro e w2 ⟨rfl, hb⟩
  replace hB := bstep hB hb
  have RP := Lib.hid (keep hb RP.out)
  have RA := Lib.hid (keep hb RA.out)
  have RB := Lib.hid (keep hb RB.out)
  have RC := Lib.hid (keep hb RC.out)
  clear hb RS
  go_wp2_with fail
  refine (la_awake _ (HE.out.below hB)).mono ?_
  rintro e w9 ⟨rfl, hb⟩
  go_wp2_with fail
  go_ret
  exact ⟨rfl, bstep hB hb⟩

set_option maxRecDepth 100000 in
set_option maxHeartbeats 16000000 in
theorem la_planes_yes (p0 p1 p2 p3 a0 a1 a2 b0 b1 b2 c0 c1 c2 u0 u1 u2 u3 x0 x1 x2 : ByteArray) (s e1 e2 e3 : Int) (w : World) (hE : Env w)
    (hf : ∀ N t W, W.heap[N]? = some (.cells #[.string a0, .string a1, .string a2, .string b0, .string b1, .string b2, .string c0, .string c1, .string c2] t (0, 0)) → Calls Tryz.prog 19 #[.agg #[.string p0, .string p1, .string p2, .string p3], .string ⟨#[]⟩, .slice (some ⟨N, 0, none⟩) 3 3] W fun e w' => e = .returned (.bool true) ∧ Below W.heap.size W w')
    (h1 : ∀ w, Env w → Calls Tryz.prog 34 #[.agg #[.string p0, .string p1, .string p2, .string p3], .agg #[.string a0, .string a1, .string a2]] w fun e w' => e = .returned (.tuple #[.int .i64 s, .int .i64 e1]) ∧ Below w.heap.size w w')
    (h2 : ∀ w, Env w → Calls Tryz.prog 35 #[.agg #[.string p0, .string p1, .string p2, .string p3], .agg #[.string a0, .string a1, .string a2]] w fun e w' => e = .returned (.tuple #[.int .i64 s, .int .i64 e1]) ∧ Below w.heap.size w w')
    (h3 : ∀ w, Env w → Calls Tryz.prog 36 #[.agg #[.string a0, .string a1, .string a2], .agg #[.string b0, .string b1, .string b2], .agg #[.string c0, .string c1, .string c2]] w fun e w' => e = .returned (.tuple #[.agg #[.string u0, .string u1, .string u2, .string u3], .int .i64 e2]) ∧ Below w.heap.size w w')
    (h4 : ∀ w, Env w → Calls Tryz.prog 37 #[.agg #[.string a0, .string a1, .string a2], .agg #[.string b0, .string b1, .string b2], .agg #[.string c0, .string c1, .string c2]] w fun e w' => e = .returned (.tuple #[.agg #[.string u0, .string u1, .string u2, .string u3], .int .i64 e2]) ∧ Below w.heap.size w w')
    (h5 : ∀ w, Env w → Calls Tryz.prog 38 #[.agg #[.string p0, .string p1, .string p2, .string p3], .agg #[.string a0, .string a1, .string a2], .agg #[.string b0, .string b1, .string b2]] w fun e w' => e = .returned (.tuple #[.agg #[.string x0, .string x1, .string x2], .int .i64 e3]) ∧ Below w.heap.size w w')
    (h6 : ∀ w, Env w → Calls Tryz.prog 39 #[.agg #[.string p0, .string p1, .string p2, .string p3], .agg #[.string a0, .string a1, .string a2], .agg #[.string b0, .string b1, .string b2]] w fun e w' => e = .returned (.tuple #[.agg #[.string x0, .string x1, .string x2], .int .i64 e3]) ∧ Below w.heap.size w w') :
    Calls Tryz.prog 5 #[.agg #[.string p0, .string p1, .string p2, .string p3], .agg #[.string a0, .string a1, .string a2], .agg #[.string b0, .string b1, .string b2], .agg #[.string c0, .string c1, .string c2]] w fun e w' => e = .returned (.bool true) ∧ Below w.heap.size w w' := by
  have HF := Lib.hid hf
  have H1 := Lib.hid h1
  have H2 := Lib.hid h2
  have H3 := Lib.hid h3
  have H4 := Lib.hid h4
  have H5 := Lib.hid h5
  have H6 := Lib.hid h6
  have HE := Lib.hid hE
  clear hE hf h1 h2 h3 h4 h5 h6
  go_enter Tryz.func5, Tryz.ntmps5
  go_wp2_with fail
  generalize hW : (((World.alloc w _).alloc _).alloc _).alloc _ = W
  obtain ⟨hB, hsz, RP, RA, RB, RC⟩ := A4 hW
  have RP := Lib.hid RP
  have RA := Lib.hid RA
  have RB := Lib.hid RB
  have RC := Lib.hid RC
  clear hW hsz
  refine (la_awake _ (HE.out.below hB)).mono ?_
  rintro e w1 ⟨rfl, hb⟩
  replace hB := bstep hB hb
  have RP := Lib.hid (keep hb RP.out)
  have RA := Lib.hid (keep hb RA.out)
  have RB := Lib.hid (keep hb RB.out)
  have RC := Lib.hid (keep hb RC.out)
  clear hb
  obtain ⟨RPc0, RPc1, RPc2, RPc3, RPf0, RPf1, RPf2, RPf3⟩ := row4 RP.out
  obtain ⟨RAc0, RAc1, RAc2, RAf0, RAf1, RAf2⟩ := row3 RA.out
  obtain ⟨RBc0, RBc1, RBc2, RBf0, RBf1, RBf2⟩ := row3 RB.out
  obtain ⟨RCc0, RCc1, RCc2, RCf0, RCf1, RCf2⟩ := row3 RC.out
  go_wp2_with fail
  clear RPc0 RPc1 RPc2 RPc3 RPf0 RPf1 RPf2 RPf3
  clear RAc0 RAc1 RAc2 RAf0 RAf1 RAf2
  clear RBc0 RBc1 RBc2 RBf0 RBf1 RBf2
  clear RCc0 RCc1 RCc2 RCf0 RCf1 RCf2
  generalize hW : World.alloc _ _ = X
  obtain ⟨hb, hsz, RS⟩ := A1 hW
  replace hB := bstep hB hb
  have RP := Lib.hid (keep hb RP.out)
  have RA := Lib.hid (keep hb RA.out)
  have RB := Lib.hid (keep hb RB.out)
  have RC := Lib.hid (keep hb RC.out)
  clear hb
  have RS := Lib.hid RS
  clear hW hsz
  refine (HF.out _ _ _ RS.out).mono ?_
  rintro e w2 ⟨rfl, hb⟩
  replace hB := bstep hB hb
  have RP := Lib.hid (keep hb RP.out)
  have RA := Lib.hid (keep hb RA.out)
  have RB := Lib.hid (keep hb RB.out)
  have RC := Lib.hid (keep hb RC.out)
  clear hb RS
  obtain ⟨RPc0, RPc1, RPc2, RPc3, RPf0, RPf1, RPf2, RPf3⟩ := row4 RP.out
  obtain ⟨RAc0, RAc1, RAc2, RAf0, RAf1, RAf2⟩ := row3 RA.out
  go_wp2_with fail
  clear RPc0 RPc1 RPc2 RPc3 RPf0 RPf1 RPf2 RPf3
  clear RAc0 RAc1 RAc2 RAf0 RAf1 RAf2
  refine (H1.out _ (HE.out.below hB)).mono ?_
  rintro e w3 ⟨rfl, hb⟩
  replace hB := bstep hB hb
  have RP := Lib.hid (keep hb RP.out)
  have RA := Lib.hid (keep hb RA.out)
  have RB := Lib.hid (keep hb RB.out)
  have RC := Lib.hid (keep hb RC.out)
  clear hb
  obtain ⟨RPc0, RPc1, RPc2, RPc3, RPf0, RPf1, RPf2, RPf3⟩ := row4 RP.out
  obtain ⟨RAc0, RAc1, RAc2, RAf0, RAf1, RAf2⟩ := row3 RA.out
  go_wp2_with fail
  clear RPc0 RPc1 RPc2 RPc3 RPf0 RPf1 RPf2 RPf3
  clear RAc0 RAc1 RAc2 RAf0 RAf1 RAf2
  refine (H2.out _ (HE.out.below hB)).mono ?_
  rintro e w4 ⟨rfl, hb⟩
  replace hB := bstep hB hb
  have RP := Lib.hid (keep hb RP.out)
  have RA := Lib.hid (keep hb RA.out)
  have RB := Lib.hid (keep hb RB.out)
  have RC := Lib.hid (keep hb RC.out)
  clear hb
  obtain ⟨RAc0, RAc1, RAc2, RAf0, RAf1, RAf2⟩ := row3 RA.out
  obtain ⟨RBc0, RBc1, RBc2, RBf0, RBf1, RBf2⟩ := row3 RB.out
  obtain ⟨RCc0, RCc1, RCc2, RCf0, RCf1, RCf2⟩ := row3 RC.out
  go_wp2_with fail
  clear RAc0 RAc1 RAc2 RAf0 RAf1 RAf2
  clear RBc0 RBc1 RBc2 RBf0 RBf1 RBf2
  clear RCc0 RCc1 RCc2 RCf0 RCf1 RCf2
  refine (H3.out _ (HE.out.below hB)).mono ?_
  rintro e w5 ⟨rfl, hb⟩
  replace hB := bstep hB hb
  have RP := Lib.hid (keep hb RP.out)
  have RA := Lib.hid (keep hb RA.out)
  have RB := Lib.hid (keep hb RB.out)
  have RC := Lib.hid (keep hb RC.out)
  clear hb
  obtain ⟨RAc0, RAc1, RAc2, RAf0, RAf1, RAf2⟩ := row3 RA.out
  obtain ⟨RBc0, RBc1, RBc2, RBf0, RBf1, RBf2⟩ := row3 RB.out
  obtain ⟨RCc0, RCc1, RCc2, RCf0, RCf1, RCf2⟩ := row3 RC.out
  have qRA := lp2 RA.out
  have qRB := lp2 RB.out
  have qRC := lp2 RC.out
  go_wp2_with fail
  clear RAc0 RAc1 RAc2 RAf0 RAf1 RAf2
  clear RBc0 RBc1 RBc2 RBf0 RBf1 RBf2
  clear RCc0 RCc1 RCc2 RCf0 RCf1 RCf2
  clear qRA qRB qRC
  generalize hW : World.alloc _ _ = V5
  obtain ⟨hb, hsz, RU⟩ := A1 hW
  replace hB := bstep hB hb
  have RP := Lib.hid (keep hb RP.out)
  have RA := Lib.hid (keep hb RA.out)
  have RB := Lib.hid (keep hb RB.out)
  have RC := Lib.hid (keep hb RC.out)
  clear hb
  have RU := Lib.hid RU
  clear hW hsz
  refine (H4.out _ (HE.out.below hB)).mono ?_
  rintro e w6 ⟨rfl, hb⟩
  replace hB := bstep hB hb
  have RP := Lib.hid (keep hb RP.out)
  have RA := Lib.hid (keep hb RA.out)
  have RB := Lib.hid (keep hb RB.out)
  have RC := Lib.hid (keep hb RC.out)
  have RU := Lib.hid (keep hb RU.out)
  clear hb
  obtain ⟨RPc0, RPc1, RPc2, RPc3, RPf0, RPf1, RPf2, RPf3⟩ := row4 RP.out
  obtain ⟨RAc0, RAc1, RAc2, RAf0, RAf1, RAf2⟩ := row3 RA.out
  obtain ⟨RBc0, RBc1, RBc2, RBf0, RBf1, RBf2⟩ := row3 RB.out
  have qRP := lp2 RP.out
  have qRA := lp2 RA.out
  have qRB := lp2 RB.out
  go_wp2_with fail
  clear RPc0 RPc1 RPc2 RPc3 RPf0 RPf1 RPf2 RPf3
  clear RAc0 RAc1 RAc2 RAf0 RAf1 RAf2
  clear RBc0 RBc1 RBc2 RBf0 RBf1 RBf2
  clear qRP qRA qRB
  generalize hW : World.alloc _ _ = V6
  obtain ⟨hb, hsz, RUr⟩ := A1 hW
  replace hB := bstep hB hb
  have RP := Lib.hid (keep hb RP.out)
  have RA := Lib.hid (keep hb RA.out)
  have RB := Lib.hid (keep hb RB.out)
  have RC := Lib.hid (keep hb RC.out)
  have RU := Lib.hid (keep hb RU.out)
  clear hb
  have RUr := Lib.hid RUr
  clear hW hsz
  refine (H5.out _ (HE.out.below hB)).mono ?_
  rintro e w7 ⟨rfl, hb⟩
  replace hB := bstep hB hb
  have RP := Lib.hid (keep hb RP.out)
  have RA := Lib.hid (keep hb RA.out)
  have RB := Lib.hid (keep hb RB.out)
  have RC := Lib.hid (keep hb RC.out)
  have RU := Lib.hid (keep hb RU.out)
  have RUr := Lib.hid (keep hb RUr.out)
  clear hb
  obtain ⟨RPc0, RPc1, RPc2, RPc3, RPf0, RPf1, RPf2, RPf3⟩ := row4 RP.out
  obtain ⟨RAc0, RAc1, RAc2, RAf0, RAf1, RAf2⟩ := row3 RA.out
  obtain ⟨RBc0, RBc1, RBc2, RBf0, RBf1, RBf2⟩ := row3 RB.out
  have qRP := lp2 RP.out
  have qRA := lp2 RA.out
  have qRB := lp2 RB.out
  go_wp2_with fail
  clear RPc0 RPc1 RPc2 RPc3 RPf0 RPf1 RPf2 RPf3
  clear RAc0 RAc1 RAc2 RAf0 RAf1 RAf2
  clear RBc0 RBc1 RBc2 RBf0 RBf1 RBf2
  clear qRP qRA qRB
  generalize hW : World.alloc _ _ = V7
  obtain ⟨hb, hsz, RX⟩ := A1 hW
  replace hB := bstep hB hb
  have RP := Lib.hid (keep hb RP.out)
  have RA := Lib.hid (keep hb RA.out)
  have RB := Lib.hid (keep hb RB.out)
  have RC := Lib.hid (keep hb RC.out)
  have RU := Lib.hid (keep hb RU.out)
  have RUr := Lib.hid (keep hb RUr.out)
  clear hb
  have RX := Lib.hid RX
  clear hW hsz
  refine (H6.out _ (HE.out.below hB)).mono ?_
  rintro e w8 ⟨rfl, hb⟩
  replace hB := bstep hB hb
  have RP := Lib.hid (keep hb RP.out)
  have RA := Lib.hid (keep hb RA.out)
  have RB := Lib.hid (keep hb RB.out)
  have RC := Lib.hid (keep hb RC.out)
  have RU := Lib.hid (keep hb RU.out)
  have RUr := Lib.hid (keep hb RUr.out)
  have RX := Lib.hid (keep hb RX.out)
  clear hb
  obtain ⟨RUc0, RUc1, RUc2, RUc3, RUf0, RUf1, RUf2, RUf3⟩ := row4 RU.out
  obtain ⟨RUrc0, RUrc1, RUrc2, RUrc3, RUrf0, RUrf1, RUrf2, RUrf3⟩ := row4 RUr.out
  obtain ⟨RXc0, RXc1, RXc2, RXf0, RXf1, RXf2⟩ := row3 RX.out
  have qRU := lp2 RU.out
  have qRUr := lp2 RUr.out
  have qRX := lp2 RX.out
  go_wp2_with fail
  go_ret
  exact ⟨rfl, bstep hB (A1 rfl).1⟩
end Go.Proofs.YtgbabmkclojgeaaGreatDoor

/- The law VectorPlanes answers true at whatever strings. -/
namespace Go.Proofs.YtgbabmkclojgeaaGreatDoor
open Go.RowKit Go.Shelf Go.Sort

theorem cres_agg (v z : Bool) (x : V3) : ∃ p0 p1 p2 : ByteArray, cres v z x = .agg #[.string p0, .string p1, .string p2] := by
  unfold cres; split
  · exact ⟨_, _, _, rfl⟩
  · exact ⟨_, _, _, rfl⟩
theorem tres_agg (v z : Bool) (n : V3) (c : Rat) : ∃ p0 p1 p2 p3 : ByteArray, tres v z n c = .agg #[.string p0, .string p1, .string p2, .string p3] := by
  unfold tres; split
  · exact ⟨_, _, _, _, rfl⟩
  · exact ⟨_, _, _, _, rfl⟩

theorem few_plane3 {p0 p1 p2 p3 a0 a1 a2 b0 b1 b2 c0 c1 c2 : ByteArray} (hp : Mx (p0, p1, p2)) (hq : p3.size ≤ 9223372036854775807) (ha : Mx (a0, a1, a2)) (hb : Mx (b0, b1, b2)) (hc : Mx (c0, c1, c2)) (f : Bool)
    (h0 : Sh20 (p0, p1, p2) → p3.size ≤ 20 → Sh20 (a0, a1, a2) → Sh20 (b0, b1, b2) → Sh20 (c0, c1, c2) → f = true) (h1 : ¬ (Sh20 (p0, p1, p2) ∧ p3.size ≤ 20 ∧ Sh20 (a0, a1, a2) ∧ Sh20 (b0, b1, b2) ∧ Sh20 (c0, c1, c2)) → f = false) (N : Nat) (t : TypeId) (W : World)
    (h : W.heap[N]? = some (.cells #[.string a0, .string a1, .string a2, .string b0, .string b1, .string b2, .string c0, .string c1, .string c2] t (0, 0))) :
    Calls Tryz.prog 19 #[.agg #[.string p0, .string p1, .string p2, .string p3], .string ⟨#[]⟩, .slice (some ⟨N, 0, none⟩) 3 3] W fun e w' => e = .returned (.bool f) ∧ Below W.heap.size W w' := by
  obtain ⟨r1, k0, k1⟩ : ∃ r : Bool, (Sh20 (p0, p1, p2) → r = true) ∧ (¬ Sh20 (p0, p1, p2) → r = false) := by
    by_cases k : Sh20 (p0, p1, p2)
    · exact ⟨true, fun _ => rfl, fun hn => absurd k hn⟩
    · exact ⟨false, fun x => absurd x k, fun _ => rfl⟩
  obtain ⟨r2, l0, l1⟩ : ∃ r : Bool, (Sh20 (a0, a1, a2) → Sh20 (b0, b1, b2) → Sh20 (c0, c1, c2) → r = true) ∧ (¬ (Sh20 (a0, a1, a2) ∧ Sh20 (b0, b1, b2) ∧ Sh20 (c0, c1, c2)) → r = false) := by
    by_cases k : Sh20 (a0, a1, a2) ∧ Sh20 (b0, b1, b2) ∧ Sh20 (c0, c1, c2)
    · exact ⟨true, fun _ _ _ => rfl, fun hn => absurd k hn⟩
    · exact ⟨false, fun x y z => absurd ⟨x, y, z⟩ k, fun _ => rfl⟩
  have hfew := la_few p0 p1 p2 p3 ⟨#[]⟩ (.slice (some ⟨N, 0, none⟩) 3 3) r1 r2 W hq mkE
    (fun N' W' h' => la_Few1 hp r1 k0 k1 N' W' h')
    (fun W' hB => la_Few3 ha hb hc r2 l0 l1 N W' (keep hB h))
  have e : fewR p3 ⟨#[]⟩ r1 r2 = f := by
    unfold fewR
    rw [show decide ((⟨#[]⟩ : ByteArray).size ≤ 20) = true from rfl, Bool.and_true]
    by_cases kp : Sh20 (p0, p1, p2)
    · rw [k0 kp]
      by_cases kq : p3.size ≤ 20
      · rw [decide_eq_true kq]
        by_cases kl : Sh20 (a0, a1, a2) ∧ Sh20 (b0, b1, b2) ∧ Sh20 (c0, c1, c2)
        · rw [l0 kl.1 kl.2.1 kl.2.2, h0 kp kq kl.1 kl.2.1 kl.2.2]; rfl
        · rw [l1 kl, h1 (fun q => kl q.2.2)]; rfl
      · rw [decide_eq_false kq, h1 (fun q => kq q.2.1)]; rfl
    · rw [k1 kp, h1 (fun q => kp q.1), Bool.and_false]; rfl
  rwa [e] at hfew

theorem la_planes (p0 p1 p2 p3 a0 a1 a2 b0 b1 b2 c0 c1 c2 : ByteArray) (w : World) (hE : Env w) (hp : Mx (p0, p1, p2) ∧ p3.size ≤ 9223372036854775807) (ha : Mx (a0, a1, a2)) (hb : Mx (b0, b1, b2)) (hc : Mx (c0, c1, c2)) :
    Calls Tryz.prog 5 #[.agg #[.string p0, .string p1, .string p2, .string p3], .agg #[.string a0, .string a1, .string a2], .agg #[.string b0, .string b1, .string b2], .agg #[.string c0, .string c1, .string c2]] w fun e w' => e = .returned (.bool true) ∧ Below w.heap.size w w' := by
  by_cases hs : Sh20 (p0, p1, p2) ∧ p3.size ≤ 20 ∧ Sh20 (a0, a1, a2) ∧ Sh20 (b0, b1, b2) ∧ Sh20 (c0, c1, c2)
  · have hF := fun N t W h => few_plane3 hp.1 hp.2 ha hb hc true (fun _ _ _ _ _ => rfl) (fun hn => absurd hs hn) N t W h
    obtain ⟨sp, sq, sa, sb, sc⟩ := hs
    obtain ⟨u0, u1, u2, u3, eu⟩ := tres_agg (vvB (a0, a1, a2) && vvB (b0, b1, b2) && vvB (c0, c1, c2)) (zero3 (nrm (vvX (a0, a1, a2)) (vvX (b0, b1, b2)) (vvX (c0, c1, c2)))) (nrm (vvX (a0, a1, a2)) (vvX (b0, b1, b2)) (vvX (c0, c1, c2))) (dotV (nrm (vvX (a0, a1, a2)) (vvX (b0, b1, b2)) (vvX (c0, c1, c2))) (vvX (a0, a1, a2)))
    obtain ⟨x0, x1, x2, ex⟩ := cres_agg (pokB (p0, p1, p2) p3 && (vvB (a0, a1, a2) && vvB (b0, b1, b2))) (sameS (vvX (p0, p1, p2)) (rvX p3) (vvX (a0, a1, a2)) (vvX (b0, b1, b2))) (crs (vvX (p0, p1, p2)) (rvX p3) (vvX (a0, a1, a2)) (vvX (b0, b1, b2)))
    refine la_planes_yes p0 p1 p2 p3 a0 a1 a2 b0 b1 b2 c0 c1 c2 u0 u1 u2 u3 x0 x1 x2 (sres (pokB (p0, p1, p2) p3 && vvB (a0, a1, a2)) (cmpQ (hgt (vvX (p0, p1, p2)) (rvX p3) (vvX (a0, a1, a2))) 0)) (eres (pokB (p0, p1, p2) p3 && vvB (a0, a1, a2))) (tcode (vvB (a0, a1, a2) && vvB (b0, b1, b2) && vvB (c0, c1, c2)) (zero3 (nrm (vvX (a0, a1, a2)) (vvX (b0, b1, b2)) (vvX (c0, c1, c2))))) (ccode (pokB (p0, p1, p2) p3 && (vvB (a0, a1, a2) && vvB (b0, b1, b2))) (sameS (vvX (p0, p1, p2)) (rvX p3) (vvX (a0, a1, a2)) (vvX (b0, b1, b2)))) w hE hF ?_ ?_ ?_ ?_ ?_ ?_
    · intro w hE
      have h := ve_SideA (p0, p1, p2) p3 (a0, a1, a2) w hE sp sq sa
      exact h
    · intro w hE
      have h := r11_Side (p0, p1, p2) p3 (a0, a1, a2) w sp sq sa
      exact h
    · intro w hE
      have h := ve_ThroughA (a0, a1, a2) (b0, b1, b2) (c0, c1, c2) w hE sa sb sc
      rwa [eu] at h
    · intro w hE
      have h := r11_Through (a0, a1, a2) (b0, b1, b2) (c0, c1, c2) w sa sb sc
      rwa [eu] at h
    · intro w hE
      have h := ve_CrossingA (p0, p1, p2) p3 (a0, a1, a2) (b0, b1, b2) w hE sp sq sa sb
      rwa [ex] at h
    · intro w hE
      have h := r11_Crossing (p0, p1, p2) p3 (a0, a1, a2) (b0, b1, b2) w sp sq sa sb
      rwa [ex] at h
  · exact la_planes_no p0 p1 p2 p3 a0 a1 a2 b0 b1 b2 c0 c1 c2 w hE (fun N t W h => few_plane3 hp.1 hp.2 ha hb hc false (fun k1 k2 k3 k4 k5 => absurd ⟨k1, k2, k3, k4, k5⟩ hs) (fun _ => rfl) N t W h)
end Go.Proofs.YtgbabmkclojgeaaGreatDoor

/- A plane opened and shut. -/

namespace Go.Proofs.YtgbabmkclojgeaaGreatDoor
open Go.ChangeShapes Go.WideShapes Go.ChangeAt Go.ChangeMaps Go.RowKit Go.Deep

theorem cells_pla : Tryz.prog.cellsOf 48 = 4 := by kernel_rfl
theorem cells_rat : Tryz.prog.cellsOf 22 = 1 := by kernel_rfl

section
variable {H : Type} {enc : TypeId × Value → H} {w : World} {base : Nat} {sp : Nat → Bool} {held : Bool}

set_option maxRecDepth 100000 in
theorem open_pla {r : Reach} {b0 : Nat} {v : Value} {d : DataW H} {p : List MemPlace} (hv : Value.okWide Tryz.prog w r b0 48 v) (h : DataW.Trod enc Tryz.prog w base sp held 48 v d p) :
    ∃ a0 a1 a2 a3 : ByteArray, v = .agg #[.string a0, .string a1, .string a2, .string a3] ∧ d = .agg [.agg [.lit (.string a0.data.toList), .lit (.string a1.data.toList), .lit (.string a2.data.toList)], .lit (.string a3.data.toList)] ∧ p = [] ∧ Mx (a0, a1, a2) ∧ a3.size ≤ 9223372036854775807 := by
  obtain ⟨cs, rfl, hsz⟩ := okWide_struct Tryz.underlying48 hv
  obtain ⟨c0, c1, c2, c3, rfl⟩ := Joins.array4 (hsz.trans cells_pla)
  obtain ⟨fuel, hf⟩ := h
  obtain ⟨y0, y1, n, hx, _, h0, h1⟩ := trod_struct2 Tryz.underlying48 hf
  rw [cells_vec] at h0
  rw [cells_rat] at h1
  have h0 : DataW.trod enc Tryz.prog w base sp held n 28 [c0, c1, c2] = some y0 := h0
  have h1 : DataW.trod enc Tryz.prog w base sp held n 22 [c3] = some y1 := h1
  obtain ⟨x0, x1, x2, m, hy, _, k0, k1, k2⟩ := trod_struct3 Tryz.underlying28 h0
  rw [cells_rat] at k0 k1 k2
  have k0 : DataW.trod enc Tryz.prog w base sp held m 22 [c0] = some x0 := k0
  have k1 : DataW.trod enc Tryz.prog w base sp held m 22 [c1] = some x1 := k1
  have k2 : DataW.trod enc Tryz.prog w base sp held m 22 [c2] = some x2 := k2
  obtain ⟨s0, e0, rfl, q0⟩ := DataW.trod_string Tryz.underlying22 k0
  obtain ⟨s1, e1, rfl, q1⟩ := DataW.trod_string Tryz.underlying22 k1
  obtain ⟨s2, e2, rfl, q2⟩ := DataW.trod_string Tryz.underlying22 k2
  obtain ⟨s3, e3, rfl, q3⟩ := DataW.trod_string Tryz.underlying22 h1
  obtain rfl := (List.cons.inj e0).1
  obtain rfl := (List.cons.inj e1).1
  obtain rfl := (List.cons.inj e2).1
  obtain rfl := (List.cons.inj e3).1
  subst hy
  simp only [Prod.mk.injEq] at hx
  exact ⟨s0, s1, s2, s3, rfl, hx.1, hx.2, ⟨Nat.le_trans q0 mx_len, Nat.le_trans q1 mx_len, Nat.le_trans q2 mx_len⟩, Nat.le_trans q3 mx_len⟩

set_option maxRecDepth 100000 in
theorem shut_pla {a0 a1 a2 a3 : ByteArray} (h : Mx (a0, a1, a2) ∧ a3.size ≤ 9223372036854775807) : DataW.Trod enc Tryz.prog w base sp held 48 (.agg #[.string a0, .string a1, .string a2, .string a3]) (.agg [.agg [.lit (.string a0.data.toList), .lit (.string a1.data.toList), .lit (.string a2.data.toList)], .lit (.string a3.data.toList)]) [] := by
  obtain ⟨n, hn⟩ := shut_vec (enc := enc) (w := w) (base := base) (sp := sp) (held := held) h.1
  obtain ⟨m, hm⟩ := shut_rat (enc := enc) (w := w) (base := base) (sp := sp) (held := held) h.2
  have hn : DataW.trod enc Tryz.prog w base sp held n 28 [.string a0, .string a1, .string a2] = some (.agg [.lit (.string a0.data.toList), .lit (.string a1.data.toList), .lit (.string a2.data.toList)], []) := hn
  have hm : DataW.trod enc Tryz.prog w base sp held m 22 [.string a3] = some (.lit (.string a3.data.toList), []) := hm
  have ts := trod_struct2_mk (enc := enc) (w := w) (base := base) (spare := sp) (held := held) (n := max n m) (cs := [.string a0, .string a1, .string a2, .string a3]) Tryz.underlying48 cells_pla.symm
    (by rw [cells_vec]; exact DataW.trod_le (Nat.le_max_left n m) hn) (by rw [cells_rat]; exact DataW.trod_le (Nat.le_max_right n m) hm)
  exact ⟨_, ts⟩
end
end Go.Proofs.YtgbabmkclojgeaaGreatDoor
