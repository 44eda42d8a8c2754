/- A PART OF THE PROOF, JOINED OUT OF 2 TEXTS. -/
import Derived.Test.YtgbabmkclojgeaaGreatDoorPnLaw
import Derived.Test.YtgbabmkclojgeaaGreatDoorQnRef
/- Walks of the law VectorComputes. -/
namespace Go.Proofs.YtgbabmkclojgeaaGreatDoor
open Go.RowKit Go.Shelf Go.Sort

attribute [local go_sem] Oper.semAt_some vec_guard vec_eq

set_option maxRecDepth 100000 in
set_option maxHeartbeats 16000000 in
theorem la_computes_no (a0 a1 a2 b0 b1 b2 c0 c1 c2 x : ByteArray) (w : World) (hE : Env w)
    (hf : ∀ N t W, W.heap[N]? = some (.cells #[.string a0, .string a1, .string a2, .string b0, .string b1, .string b2, .string c0, .string c1, .string c2] t (0, 0)) → Calls Tryz.prog 19 #[.agg #[.string ⟨#[]⟩, .string ⟨#[]⟩, .string ⟨#[]⟩, .string ⟨#[]⟩], .string x, .slice (some ⟨N, 0, none⟩) 3 3] W fun e w' => e = .returned (.bool false) ∧ Below W.heap.size W w') :
    Calls Tryz.prog 4 #[.agg #[.string a0, .string a1, .string a2], .agg #[.string b0, .string b1, .string b2], .agg #[.string c0, .string c1, .string c2], .string x] w fun e w' => e = .returned (.bool true) ∧ Below w.heap.size w w' := by
  have HF := Lib.hid hf
  have HE := Lib.hid hE
  clear hE hf 
  go_enter Tryz.func4, Tryz.ntmps4
  go_wp2_with fail
  generalize hW : ((World.alloc w _).alloc _).alloc _ = W
  obtain ⟨hB, hsz, RA, RB, RC⟩ := A3 hW
  have RA := Lib.hid RA
  have RB := Lib.hid RB
  have RC := Lib.hid RC
  clear hW hsz
  refine (la_awake _ (HE.out.below hB)).mono ?_
  rintro e w1 ⟨rfl, hb⟩
  replace hB := bstep hB hb
  have RA := Lib.hid (keep hb RA.out)
  have RB := Lib.hid (keep hb RB.out)
  have RC := Lib.hid (keep hb RC.out)
  clear hb
  obtain ⟨RAc0, RAc1, RAc2, RAf0, RAf1, RAf2⟩ := row3 RA.out
  obtain ⟨RBc0, RBc1, RBc2, RBf0, RBf1, RBf2⟩ := row3 RB.out
  obtain ⟨RCc0, RCc1, RCc2, RCf0, RCf1, RCf2⟩ := row3 RC.out
  go_wp2_with fail
  clear RAc0 RAc1 RAc2 RAf0 RAf1 RAf2
  clear RBc0 RBc1 RBc2 RBf0 RBf1 RBf2
  clear RCc0 RCc1 RCc2 RCf0 RCf1 RCf2
  generalize hW : World.alloc _ _ = X
  obtain ⟨hb, hsz, RS⟩ := A1 hW
  replace hB := bstep hB hb
  have RA := Lib.hid (keep hb RA.out)
  have RB := Lib.hid (keep hb RB.out)
  have RC := Lib.hid (keep hb RC.out)
  clear hb
  have RS := Lib.hid RS
  clear hW hsz
  refine (HF.out _ _ _ RS.out).mono ?_
  rintro e w2 ⟨rfl, hb⟩
  replace hB := bstep hB hb
  have RA := Lib.hid (keep hb RA.out)
  have RB := Lib.hid (keep hb RB.out)
  have RC := Lib.hid (keep hb RC.out)
  clear hb RS
  go_wp2_with fail
  refine (la_awake _ (HE.out.below hB)).mono ?_
  rintro e w9 ⟨rfl, hb⟩
  go_wp2_with fail
  go_ret
  exact ⟨rfl, bstep hB hb⟩

set_option maxRecDepth 100000 in
set_option maxHeartbeats 16000000 in
theorem la_computes_yes (a0 a1 a2 b0 b1 b2 c0 c1 c2 p0 p1 p2 q0 q1 q2 r0 r1 r2 u0 u1 u2 x m n : ByteArray) (e1 e2 e3 : Int) (v : Bool) (w : World) (hE : Env w)
    (hf : ∀ N t W, W.heap[N]? = some (.cells #[.string a0, .string a1, .string a2, .string b0, .string b1, .string b2, .string c0, .string c1, .string c2] t (0, 0)) → Calls Tryz.prog 19 #[.agg #[.string ⟨#[]⟩, .string ⟨#[]⟩, .string ⟨#[]⟩, .string ⟨#[]⟩], .string x, .slice (some ⟨N, 0, none⟩) 3 3] W fun e w' => e = .returned (.bool true) ∧ Below W.heap.size W w')
    (h1 : ∀ w, Env w → Calls Tryz.prog 20 #[.agg #[.string a0, .string a1, .string a2], .agg #[.string b0, .string b1, .string b2]] w fun e w' => e = .returned (.tuple #[.agg #[.string p0, .string p1, .string p2], .int .i64 e1]) ∧ Below w.heap.size w w')
    (h2 : ∀ w, Env w → Calls Tryz.prog 21 #[.agg #[.string a0, .string a1, .string a2], .agg #[.string b0, .string b1, .string b2]] w fun e w' => e = .returned (.tuple #[.agg #[.string p0, .string p1, .string p2], .int .i64 e1]) ∧ Below w.heap.size w w')
    (h3 : ∀ w, Env w → Calls Tryz.prog 22 #[.agg #[.string a0, .string a1, .string a2], .agg #[.string b0, .string b1, .string b2]] w fun e w' => e = .returned (.tuple #[.agg #[.string q0, .string q1, .string q2], .int .i64 e1]) ∧ Below w.heap.size w w')
    (h4 : ∀ w, Env w → Calls Tryz.prog 23 #[.agg #[.string a0, .string a1, .string a2], .agg #[.string b0, .string b1, .string b2]] w fun e w' => e = .returned (.tuple #[.agg #[.string q0, .string q1, .string q2], .int .i64 e1]) ∧ Below w.heap.size w w')
    (h5 : ∀ w, Env w → Calls Tryz.prog 24 #[.agg #[.string a0, .string a1, .string a2], .string x] w fun e w' => e = .returned (.tuple #[.agg #[.string r0, .string r1, .string r2], .int .i64 e2]) ∧ Below w.heap.size w w')
    (h6 : ∀ w, Env w → Calls Tryz.prog 25 #[.agg #[.string a0, .string a1, .string a2], .string x] w fun e w' => e = .returned (.tuple #[.agg #[.string r0, .string r1, .string r2], .int .i64 e2]) ∧ Below w.heap.size w w')
    (h7 : ∀ w, Env w → Calls Tryz.prog 26 #[.agg #[.string a0, .string a1, .string a2], .agg #[.string b0, .string b1, .string b2]] w fun e w' => e = .returned (.tuple #[.string m, .int .i64 e1]) ∧ Below w.heap.size w w')
    (h8 : ∀ w, Env w → Calls Tryz.prog 27 #[.agg #[.string a0, .string a1, .string a2], .agg #[.string b0, .string b1, .string b2]] w fun e w' => e = .returned (.tuple #[.string m, .int .i64 e1]) ∧ Below w.heap.size w w')
    (h9 : ∀ w, Env w → Calls Tryz.prog 28 #[.agg #[.string a0, .string a1, .string a2], .agg #[.string b0, .string b1, .string b2]] w fun e w' => e = .returned (.tuple #[.agg #[.string u0, .string u1, .string u2], .int .i64 e1]) ∧ Below w.heap.size w w')
    (h10 : ∀ w, Env w → Calls Tryz.prog 29 #[.agg #[.string a0, .string a1, .string a2], .agg #[.string b0, .string b1, .string b2]] w fun e w' => e = .returned (.tuple #[.agg #[.string u0, .string u1, .string u2], .int .i64 e1]) ∧ Below w.heap.size w w')
    (h11 : ∀ w, Env w → Calls Tryz.prog 30 #[.agg #[.string a0, .string a1, .string a2], .agg #[.string b0, .string b1, .string b2], .agg #[.string c0, .string c1, .string c2]] w fun e w' => e = .returned (.tuple #[.string n, .int .i64 e3]) ∧ Below w.heap.size w w')
    (h12 : ∀ w, Env w → Calls Tryz.prog 31 #[.agg #[.string a0, .string a1, .string a2], .agg #[.string b0, .string b1, .string b2], .agg #[.string c0, .string c1, .string c2]] w fun e w' => e = .returned (.tuple #[.string n, .int .i64 e3]) ∧ Below w.heap.size w w')
    (h13 : ∀ w, Env w → Calls Tryz.prog 32 #[.agg #[.string a0, .string a1, .string a2]] w fun e w' => e = .returned (.bool v) ∧ Below w.heap.size w w')
    (h14 : ∀ w, Env w → Calls Tryz.prog 33 #[.agg #[.string a0, .string a1, .string a2]] w fun e w' => e = .returned (.bool v) ∧ Below w.heap.size w w') :
    Calls Tryz.prog 4 #[.agg #[.string a0, .string a1, .string a2], .agg #[.string b0, .string b1, .string b2], .agg #[.string c0, .string c1, .string c2], .string x] w fun e w' => e = .returned (.bool true) ∧ Below w.heap.size w w' := by
  have HF := Lib.hid hf
  have H1 := Lib.hid h1
  have H2 := Lib.hid h2
  have H3 := Lib.hid h3
  have H4 := Lib.hid h4
  have H5 := Lib.hid h5
  have H6 := Lib.hid h6
  have H7 := Lib.hid h7
  have H8 := Lib.hid h8
  have H9 := Lib.hid h9
  have H10 := Lib.hid h10
  have H11 := Lib.hid h11
  have H12 := Lib.hid h12
  have H13 := Lib.hid h13
  have H14 := Lib.hid h14
  have HE := Lib.hid hE
  clear hE hf h1 h2 h3 h4 h5 h6 h7 h8 h9 h10 h11 h12 h13 h14
  go_enter Tryz.func4, Tryz.ntmps4
  go_wp2_with fail
  generalize hW : ((World.alloc w _).alloc _).alloc _ = W
  obtain ⟨hB, hsz, RA, RB, RC⟩ := A3 hW
  have RA := Lib.hid RA
  have RB := Lib.hid RB
  have RC := Lib.hid RC
  clear hW hsz
  refine (la_awake _ (HE.out.below hB)).mono ?_
  rintro e w1 ⟨rfl, hb⟩
  replace hB := bstep hB hb
  have RA := Lib.hid (keep hb RA.out)
  have RB := Lib.hid (keep hb RB.out)
  have RC := Lib.hid (keep hb RC.out)
  clear hb
  obtain ⟨RAc0, RAc1, RAc2, RAf0, RAf1, RAf2⟩ := row3 RA.out
  obtain ⟨RBc0, RBc1, RBc2, RBf0, RBf1, RBf2⟩ := row3 RB.out
  obtain ⟨RCc0, RCc1, RCc2, RCf0, RCf1, RCf2⟩ := row3 RC.out
  go_wp2_with fail
  clear RAc0 RAc1 RAc2 RAf0 RAf1 RAf2
  clear RBc0 RBc1 RBc2 RBf0 RBf1 RBf2
  clear RCc0 RCc1 RCc2 RCf0 RCf1 RCf2
  generalize hW : World.alloc _ _ = X
  obtain ⟨hb, hsz, RS⟩ := A1 hW
  replace hB := bstep hB hb
  have RA := Lib.hid (keep hb RA.out)
  have RB := Lib.hid (keep hb RB.out)
  have RC := Lib.hid (keep hb RC.out)
  clear hb
  have RS := Lib.hid RS
  clear hW hsz
  refine (HF.out _ _ _ RS.out).mono ?_
  rintro e w2 ⟨rfl, hb⟩
  replace hB := bstep hB hb
  have RA := Lib.hid (keep hb RA.out)
  have RB := Lib.hid (keep hb RB.out)
  have RC := Lib.hid (keep hb RC.out)
  clear hb RS
  obtain ⟨RAc0, RAc1, RAc2, RAf0, RAf1, RAf2⟩ := row3 RA.out
  obtain ⟨RBc0, RBc1, RBc2, RBf0, RBf1, RBf2⟩ := row3 RB.out
  go_wp2_with fail
  clear RAc0 RAc1 RAc2 RAf0 RAf1 RAf2
  clear RBc0 RBc1 RBc2 RBf0 RBf1 RBf2
  refine (H1.out _ (HE.out.below hB)).mono ?_
  rintro e w3 ⟨rfl, hb⟩
  replace hB := bstep hB hb
  have RA := Lib.hid (keep hb RA.out)
  have RB := Lib.hid (keep hb RB.out)
  have RC := Lib.hid (keep hb RC.out)
  clear hb
  obtain ⟨RAc0, RAc1, RAc2, RAf0, RAf1, RAf2⟩ := row3 RA.out
  obtain ⟨RBc0, RBc1, RBc2, RBf0, RBf1, RBf2⟩ := row3 RB.out
  have qRA := lp2 RA.out
  have qRB := lp2 RB.out
  go_wp2_with fail
  clear RAc0 RAc1 RAc2 RAf0 RAf1 RAf2
  clear RBc0 RBc1 RBc2 RBf0 RBf1 RBf2
  clear qRA qRB
  generalize hW : World.alloc _ _ = V3
  obtain ⟨hb, hsz, RP⟩ := A1 hW
  replace hB := bstep hB hb
  have RA := Lib.hid (keep hb RA.out)
  have RB := Lib.hid (keep hb RB.out)
  have RC := Lib.hid (keep hb RC.out)
  clear hb
  have RP := Lib.hid RP
  clear hW hsz
  refine (H2.out _ (HE.out.below hB)).mono ?_
  rintro e w4 ⟨rfl, hb⟩
  replace hB := bstep hB hb
  have RA := Lib.hid (keep hb RA.out)
  have RB := Lib.hid (keep hb RB.out)
  have RC := Lib.hid (keep hb RC.out)
  have RP := Lib.hid (keep hb RP.out)
  clear hb
  obtain ⟨RAc0, RAc1, RAc2, RAf0, RAf1, RAf2⟩ := row3 RA.out
  obtain ⟨RBc0, RBc1, RBc2, RBf0, RBf1, RBf2⟩ := row3 RB.out
  have qRA := lp2 RA.out
  have qRB := lp2 RB.out
  go_wp2_with fail
  clear RAc0 RAc1 RAc2 RAf0 RAf1 RAf2
  clear RBc0 RBc1 RBc2 RBf0 RBf1 RBf2
  clear qRA qRB
  generalize hW : World.alloc _ _ = V4
  obtain ⟨hb, hsz, RPr⟩ := A1 hW
  replace hB := bstep hB hb
  have RA := Lib.hid (keep hb RA.out)
  have RB := Lib.hid (keep hb RB.out)
  have RC := Lib.hid (keep hb RC.out)
  have RP := Lib.hid (keep hb RP.out)
  clear hb
  have RPr := Lib.hid RPr
  clear hW hsz
  refine (H3.out _ (HE.out.below hB)).mono ?_
  rintro e w5 ⟨rfl, hb⟩
  replace hB := bstep hB hb
  have RA := Lib.hid (keep hb RA.out)
  have RB := Lib.hid (keep hb RB.out)
  have RC := Lib.hid (keep hb RC.out)
  have RP := Lib.hid (keep hb RP.out)
  have RPr := Lib.hid (keep hb RPr.out)
  clear hb
  obtain ⟨RAc0, RAc1, RAc2, RAf0, RAf1, RAf2⟩ := row3 RA.out
  obtain ⟨RBc0, RBc1, RBc2, RBf0, RBf1, RBf2⟩ := row3 RB.out
  have qRA := lp2 RA.out
  have qRB := lp2 RB.out
  go_wp2_with fail
  clear RAc0 RAc1 RAc2 RAf0 RAf1 RAf2
  clear RBc0 RBc1 RBc2 RBf0 RBf1 RBf2
  clear qRA qRB
  generalize hW : World.alloc _ _ = V5
  obtain ⟨hb, hsz, RQ⟩ := A1 hW
  replace hB := bstep hB hb
  have RA := Lib.hid (keep hb RA.out)
  have RB := Lib.hid (keep hb RB.out)
  have RC := Lib.hid (keep hb RC.out)
  have RP := Lib.hid (keep hb RP.out)
  have RPr := Lib.hid (keep hb RPr.out)
  clear hb
  have RQ := Lib.hid RQ
  clear hW hsz
  refine (H4.out _ (HE.out.below hB)).mono ?_
  rintro e w6 ⟨rfl, hb⟩
  replace hB := bstep hB hb
  have RA := Lib.hid (keep hb RA.out)
  have RB := Lib.hid (keep hb RB.out)
  have RC := Lib.hid (keep hb RC.out)
  have RP := Lib.hid (keep hb RP.out)
  have RPr := Lib.hid (keep hb RPr.out)
  have RQ := Lib.hid (keep hb RQ.out)
  clear hb
  obtain ⟨RAc0, RAc1, RAc2, RAf0, RAf1, RAf2⟩ := row3 RA.out
  have qRA := lp2 RA.out
  go_wp2_with fail
  clear RAc0 RAc1 RAc2 RAf0 RAf1 RAf2
  clear qRA
  generalize hW : World.alloc _ _ = V6
  obtain ⟨hb, hsz, RQr⟩ := A1 hW
  replace hB := bstep hB hb
  have RA := Lib.hid (keep hb RA.out)
  have RB := Lib.hid (keep hb RB.out)
  have RC := Lib.hid (keep hb RC.out)
  have RP := Lib.hid (keep hb RP.out)
  have RPr := Lib.hid (keep hb RPr.out)
  have RQ := Lib.hid (keep hb RQ.out)
  clear hb
  have RQr := Lib.hid RQr
  clear hW hsz
  refine (H5.out _ (HE.out.below hB)).mono ?_
  rintro e w7 ⟨rfl, hb⟩
  replace hB := bstep hB hb
  have RA := Lib.hid (keep hb RA.out)
  have RB := Lib.hid (keep hb RB.out)
  have RC := Lib.hid (keep hb RC.out)
  have RP := Lib.hid (keep hb RP.out)
  have RPr := Lib.hid (keep hb RPr.out)
  have RQ := Lib.hid (keep hb RQ.out)
  have RQr := Lib.hid (keep hb RQr.out)
  clear hb
  obtain ⟨RAc0, RAc1, RAc2, RAf0, RAf1, RAf2⟩ := row3 RA.out
  have qRA := lp2 RA.out
  go_wp2_with fail
  clear RAc0 RAc1 RAc2 RAf0 RAf1 RAf2
  clear qRA
  generalize hW : World.alloc _ _ = V7
  obtain ⟨hb, hsz, RR⟩ := A1 hW
  replace hB := bstep hB hb
  have RA := Lib.hid (keep hb RA.out)
  have RB := Lib.hid (keep hb RB.out)
  have RC := Lib.hid (keep hb RC.out)
  have RP := Lib.hid (keep hb RP.out)
  have RPr := Lib.hid (keep hb RPr.out)
  have RQ := Lib.hid (keep hb RQ.out)
  have RQr := Lib.hid (keep hb RQr.out)
  clear hb
  have RR := Lib.hid RR
  clear hW hsz
  refine (H6.out _ (HE.out.below hB)).mono ?_
  rintro e w8 ⟨rfl, hb⟩
  replace hB := bstep hB hb
  have RA := Lib.hid (keep hb RA.out)
  have RB := Lib.hid (keep hb RB.out)
  have RC := Lib.hid (keep hb RC.out)
  have RP := Lib.hid (keep hb RP.out)
  have RPr := Lib.hid (keep hb RPr.out)
  have RQ := Lib.hid (keep hb RQ.out)
  have RQr := Lib.hid (keep hb RQr.out)
  have RR := Lib.hid (keep hb RR.out)
  clear hb
  obtain ⟨RAc0, RAc1, RAc2, RAf0, RAf1, RAf2⟩ := row3 RA.out
  obtain ⟨RBc0, RBc1, RBc2, RBf0, RBf1, RBf2⟩ := row3 RB.out
  have qRA := lp2 RA.out
  have qRB := lp2 RB.out
  go_wp2_with fail
  clear RAc0 RAc1 RAc2 RAf0 RAf1 RAf2
  clear RBc0 RBc1 RBc2 RBf0 RBf1 RBf2
  clear qRA qRB
  generalize hW : World.alloc _ _ = V8
  obtain ⟨hb, hsz, RRr⟩ := A1 hW
  replace hB := bstep hB hb
  have RA := Lib.hid (keep hb RA.out)
  have RB := Lib.hid (keep hb RB.out)
  have RC := Lib.hid (keep hb RC.out)
  have RP := Lib.hid (keep hb RP.out)
  have RPr := Lib.hid (keep hb RPr.out)
  have RQ := Lib.hid (keep hb RQ.out)
  have RQr := Lib.hid (keep hb RQr.out)
  have RR := Lib.hid (keep hb RR.out)
  clear hb
  have RRr := Lib.hid RRr
  clear hW hsz
  refine (H7.out _ (HE.out.below hB)).mono ?_
  rintro e w9 ⟨rfl, hb⟩
  replace hB := bstep hB hb
  have RA := Lib.hid (keep hb RA.out)
  have RB := Lib.hid (keep hb RB.out)
  have RC := Lib.hid (keep hb RC.out)
  have RP := Lib.hid (keep hb RP.out)
  have RPr := Lib.hid (keep hb RPr.out)
  have RQ := Lib.hid (keep hb RQ.out)
  have RQr := Lib.hid (keep hb RQr.out)
  have RR := Lib.hid (keep hb RR.out)
  have RRr := Lib.hid (keep hb RRr.out)
  clear hb
  obtain ⟨RAc0, RAc1, RAc2, RAf0, RAf1, RAf2⟩ := row3 RA.out
  obtain ⟨RBc0, RBc1, RBc2, RBf0, RBf1, RBf2⟩ := row3 RB.out
  go_wp2_with fail
  clear RAc0 RAc1 RAc2 RAf0 RAf1 RAf2
  clear RBc0 RBc1 RBc2 RBf0 RBf1 RBf2
  refine (H8.out _ (HE.out.below hB)).mono ?_
  rintro e w10 ⟨rfl, hb⟩
  replace hB := bstep hB hb
  have RA := Lib.hid (keep hb RA.out)
  have RB := Lib.hid (keep hb RB.out)
  have RC := Lib.hid (keep hb RC.out)
  have RP := Lib.hid (keep hb RP.out)
  have RPr := Lib.hid (keep hb RPr.out)
  have RQ := Lib.hid (keep hb RQ.out)
  have RQr := Lib.hid (keep hb RQr.out)
  have RR := Lib.hid (keep hb RR.out)
  have RRr := Lib.hid (keep hb RRr.out)
  clear hb
  obtain ⟨RAc0, RAc1, RAc2, RAf0, RAf1, RAf2⟩ := row3 RA.out
  obtain ⟨RBc0, RBc1, RBc2, RBf0, RBf1, RBf2⟩ := row3 RB.out
  go_wp2_with fail
  clear RAc0 RAc1 RAc2 RAf0 RAf1 RAf2
  clear RBc0 RBc1 RBc2 RBf0 RBf1 RBf2
  refine (H9.out _ (HE.out.below hB)).mono ?_
  rintro e w11 ⟨rfl, hb⟩
  replace hB := bstep hB hb
  have RA := Lib.hid (keep hb RA.out)
  have RB := Lib.hid (keep hb RB.out)
  have RC := Lib.hid (keep hb RC.out)
  have RP := Lib.hid (keep hb RP.out)
  have RPr := Lib.hid (keep hb RPr.out)
  have RQ := Lib.hid (keep hb RQ.out)
  have RQr := Lib.hid (keep hb RQr.out)
  have RR := Lib.hid (keep hb RR.out)
  have RRr := Lib.hid (keep hb RRr.out)
  clear hb
  obtain ⟨RAc0, RAc1, RAc2, RAf0, RAf1, RAf2⟩ := row3 RA.out
  obtain ⟨RBc0, RBc1, RBc2, RBf0, RBf1, RBf2⟩ := row3 RB.out
  have qRA := lp2 RA.out
  have qRB := lp2 RB.out
  go_wp2_with fail
  clear RAc0 RAc1 RAc2 RAf0 RAf1 RAf2
  clear RBc0 RBc1 RBc2 RBf0 RBf1 RBf2
  clear qRA qRB
  generalize hW : World.alloc _ _ = V11
  obtain ⟨hb, hsz, RU⟩ := A1 hW
  replace hB := bstep hB hb
  have RA := Lib.hid (keep hb RA.out)
  have RB := Lib.hid (keep hb RB.out)
  have RC := Lib.hid (keep hb RC.out)
  have RP := Lib.hid (keep hb RP.out)
  have RPr := Lib.hid (keep hb RPr.out)
  have RQ := Lib.hid (keep hb RQ.out)
  have RQr := Lib.hid (keep hb RQr.out)
  have RR := Lib.hid (keep hb RR.out)
  have RRr := Lib.hid (keep hb RRr.out)
  clear hb
  have RU := Lib.hid RU
  clear hW hsz
  refine (H10.out _ (HE.out.below hB)).mono ?_
  rintro e w12 ⟨rfl, hb⟩
  replace hB := bstep hB hb
  have RA := Lib.hid (keep hb RA.out)
  have RB := Lib.hid (keep hb RB.out)
  have RC := Lib.hid (keep hb RC.out)
  have RP := Lib.hid (keep hb RP.out)
  have RPr := Lib.hid (keep hb RPr.out)
  have RQ := Lib.hid (keep hb RQ.out)
  have RQr := Lib.hid (keep hb RQr.out)
  have RR := Lib.hid (keep hb RR.out)
  have RRr := Lib.hid (keep hb RRr.out)
  have RU := Lib.hid (keep hb RU.out)
  clear hb
  obtain ⟨RAc0, RAc1, RAc2, RAf0, RAf1, RAf2⟩ := row3 RA.out
  obtain ⟨RBc0, RBc1, RBc2, RBf0, RBf1, RBf2⟩ := row3 RB.out
  obtain ⟨RCc0, RCc1, RCc2, RCf0, RCf1, RCf2⟩ := row3 RC.out
  have qRA := lp2 RA.out
  have qRB := lp2 RB.out
  have qRC := lp2 RC.out
  go_wp2_with fail
  clear RAc0 RAc1 RAc2 RAf0 RAf1 RAf2
  clear RBc0 RBc1 RBc2 RBf0 RBf1 RBf2
  clear RCc0 RCc1 RCc2 RCf0 RCf1 RCf2
  clear qRA qRB qRC
  generalize hW : World.alloc _ _ = V12
  obtain ⟨hb, hsz, RUr⟩ := A1 hW
  replace hB := bstep hB hb
  have RA := Lib.hid (keep hb RA.out)
  have RB := Lib.hid (keep hb RB.out)
  have RC := Lib.hid (keep hb RC.out)
  have RP := Lib.hid (keep hb RP.out)
  have RPr := Lib.hid (keep hb RPr.out)
  have RQ := Lib.hid (keep hb RQ.out)
  have RQr := Lib.hid (keep hb RQr.out)
  have RR := Lib.hid (keep hb RR.out)
  have RRr := Lib.hid (keep hb RRr.out)
  have RU := Lib.hid (keep hb RU.out)
  clear hb
  have RUr := Lib.hid RUr
  clear hW hsz
  refine (H11.out _ (HE.out.below hB)).mono ?_
  rintro e w13 ⟨rfl, hb⟩
  replace hB := bstep hB hb
  have RA := Lib.hid (keep hb RA.out)
  have RB := Lib.hid (keep hb RB.out)
  have RC := Lib.hid (keep hb RC.out)
  have RP := Lib.hid (keep hb RP.out)
  have RPr := Lib.hid (keep hb RPr.out)
  have RQ := Lib.hid (keep hb RQ.out)
  have RQr := Lib.hid (keep hb RQr.out)
  have RR := Lib.hid (keep hb RR.out)
  have RRr := Lib.hid (keep hb RRr.out)
  have RU := Lib.hid (keep hb RU.out)
  have RUr := Lib.hid (keep hb RUr.out)
  clear hb
  obtain ⟨RAc0, RAc1, RAc2, RAf0, RAf1, RAf2⟩ := row3 RA.out
  obtain ⟨RBc0, RBc1, RBc2, RBf0, RBf1, RBf2⟩ := row3 RB.out
  obtain ⟨RCc0, RCc1, RCc2, RCf0, RCf1, RCf2⟩ := row3 RC.out
  go_wp2_with fail
  clear RAc0 RAc1 RAc2 RAf0 RAf1 RAf2
  clear RBc0 RBc1 RBc2 RBf0 RBf1 RBf2
  clear RCc0 RCc1 RCc2 RCf0 RCf1 RCf2
  refine (H12.out _ (HE.out.below hB)).mono ?_
  rintro e w14 ⟨rfl, hb⟩
  replace hB := bstep hB hb
  have RA := Lib.hid (keep hb RA.out)
  have RB := Lib.hid (keep hb RB.out)
  have RC := Lib.hid (keep hb RC.out)
  have RP := Lib.hid (keep hb RP.out)
  have RPr := Lib.hid (keep hb RPr.out)
  have RQ := Lib.hid (keep hb RQ.out)
  have RQr := Lib.hid (keep hb RQr.out)
  have RR := Lib.hid (keep hb RR.out)
  have RRr := Lib.hid (keep hb RRr.out)
  have RU := Lib.hid (keep hb RU.out)
  have RUr := Lib.hid (keep hb RUr.out)
  clear hb
  go_upto_region 15 with fail
  have hE := HE.out.below hB
  have cRA0 := fun d os => cell_regrown (row3 RA.out).1 d os
  have cRA1 := fun d os => cell_regrown (row3 RA.out).2.1 d os
  have cRA2 := fun d os => cell_regrown (row3 RA.out).2.2.1 d os
  have cRP0 := fun d os => cell_regrown (row3 RP.out).1 d os
  have cRP1 := fun d os => cell_regrown (row3 RP.out).2.1 d os
  have cRP2 := fun d os => cell_regrown (row3 RP.out).2.2.1 d os
  have cRPr0 := fun d os => cell_regrown (row3 RPr.out).1 d os
  have cRPr1 := fun d os => cell_regrown (row3 RPr.out).2.1 d os
  have cRPr2 := fun d os => cell_regrown (row3 RPr.out).2.2.1 d os
  have cRQ0 := fun d os => cell_regrown (row3 RQ.out).1 d os
  have cRQ1 := fun d os => cell_regrown (row3 RQ.out).2.1 d os
  have cRQ2 := fun d os => cell_regrown (row3 RQ.out).2.2.1 d os
  have cRQr0 := fun d os => cell_regrown (row3 RQr.out).1 d os
  have cRQr1 := fun d os => cell_regrown (row3 RQr.out).2.1 d os
  have cRQr2 := fun d os => cell_regrown (row3 RQr.out).2.2.1 d os
  have cRR0 := fun d os => cell_regrown (row3 RR.out).1 d os
  have cRR1 := fun d os => cell_regrown (row3 RR.out).2.1 d os
  have cRR2 := fun d os => cell_regrown (row3 RR.out).2.2.1 d os
  have cRRr0 := fun d os => cell_regrown (row3 RRr.out).1 d os
  have cRRr1 := fun d os => cell_regrown (row3 RRr.out).2.1 d os
  have cRRr2 := fun d os => cell_regrown (row3 RRr.out).2.2.1 d os
  have cRU0 := fun d os => cell_regrown (row3 RU.out).1 d os
  have cRU1 := fun d os => cell_regrown (row3 RU.out).2.1 d os
  have cRU2 := fun d os => cell_regrown (row3 RU.out).2.2.1 d os
  have cRUr0 := fun d os => cell_regrown (row3 RUr.out).1 d os
  have cRUr1 := fun d os => cell_regrown (row3 RUr.out).2.1 d os
  have cRUr2 := fun d os => cell_regrown (row3 RUr.out).2.2.1 d os
  have T1 := Lib.hid (fun d os => Calls.regrown_of (H13.out (grow (redrawn w14 d) os) (hE.below (below_regrown w14 d os))))
  have T2 := Lib.hid (fun d os => Calls.regrown_of (H14.out (grow (redrawn w14 d) os) (hE.below (below_regrown w14 d os))))
  clear hE H1 H2 H3 H4 H5 H6 H7 H8 H9 H10 H11 H12 H13 H14
  refine wp_region_quiet_below (by kernel_rfl) (by kernel_rfl) ?_
  repeat (first | quiet_step (with_reducible exact T1.out _ _) | quiet_step (with_reducible exact T2.out _ _))
  refine wpQuiet_nil ?_
  intro _ hw'
  obtain ⟨⟨dq, osq⟩, hw''⟩ := hw'
  subst hw''
  have hb := below_regrown w14 dq osq
  go_wp2_with fail
  go_ret
  exact ⟨rfl, bstep hB hb⟩
end Go.Proofs.YtgbabmkclojgeaaGreatDoor

/- The law VectorComputes answers true at whatever strings. -/
namespace Go.Proofs.YtgbabmkclojgeaaGreatDoor
open Go.RowKit Go.Shelf Go.Sort

theorem vres_agg (ok : Bool) (z : V3) : ∃ p0 p1 p2 : ByteArray, vres ok z = .agg #[.string p0, .string p1, .string p2] := by
  cases ok
  · exact ⟨_, _, _, rfl⟩
  · exact ⟨_, _, _, rfl⟩
theorem qres_text (ok : Bool) (z : Rat) : ∃ m : ByteArray, qres ok z = .string m := by
  cases ok
  · exact ⟨_, rfl⟩
  · exact ⟨_, rfl⟩

theorem la_computes (a0 a1 a2 b0 b1 b2 c0 c1 c2 x : ByteArray) (w : World) (hE : Env w) (ha : Mx (a0, a1, a2)) (hb : Mx (b0, b1, b2)) (hc : Mx (c0, c1, c2)) (hx : x.size ≤ 9223372036854775807) :
    Calls Tryz.prog 4 #[.agg #[.string a0, .string a1, .string a2], .agg #[.string b0, .string b1, .string b2], .agg #[.string c0, .string c1, .string c2], .string x] w fun e w' => e = .returned (.bool true) ∧ Below w.heap.size w w' := by
  by_cases hs : Sh20 (a0, a1, a2) ∧ Sh20 (b0, b1, b2) ∧ Sh20 (c0, c1, c2) ∧ x.size ≤ 20
  · have hF := fun N t W h => few_three ha hb hc hx true (fun _ _ _ _ => rfl) (fun hn => absurd hs hn) N t W h
    obtain ⟨sa, sb, sc, sx⟩ := hs
    obtain ⟨p0, p1, p2, ep⟩ := vres_agg (vvB (a0, a1, a2) && vvB (b0, b1, b2)) (addV (vvX (a0, a1, a2)) (vvX (b0, b1, b2)))
    obtain ⟨q0, q1, q2, eq⟩ := vres_agg (vvB (a0, a1, a2) && vvB (b0, b1, b2)) (subV (vvX (a0, a1, a2)) (vvX (b0, b1, b2)))
    obtain ⟨r0, r1, r2, er⟩ := vres_agg (vvB (a0, a1, a2) && rvB x) (scaleV (vvX (a0, a1, a2)) (rvX x))
    obtain ⟨u0, u1, u2, eu⟩ := vres_agg (vvB (a0, a1, a2) && vvB (b0, b1, b2)) (crossV (vvX (a0, a1, a2)) (vvX (b0, b1, b2)))
    obtain ⟨m, em⟩ := qres_text (vvB (a0, a1, a2) && vvB (b0, b1, b2)) (dotV (vvX (a0, a1, a2)) (vvX (b0, b1, b2)))
    obtain ⟨n, en⟩ := qres_text (vvB (a0, a1, a2) && vvB (b0, b1, b2) && vvB (c0, c1, c2)) (detV (vvX (a0, a1, a2)) (vvX (b0, b1, b2)) (vvX (c0, c1, c2)))
    refine la_computes_yes a0 a1 a2 b0 b1 b2 c0 c1 c2 p0 p1 p2 q0 q1 q2 r0 r1 r2 u0 u1 u2 x m n (eres (vvB (a0, a1, a2) && vvB (b0, b1, b2))) (eres (vvB (a0, a1, a2) && rvB x)) (eres (vvB (a0, a1, a2) && vvB (b0, b1, b2) && vvB (c0, c1, c2))) (vvB (a0, a1, a2)) w hE hF ?_ ?_ ?_ ?_ ?_ ?_ ?_ ?_ ?_ ?_ ?_ ?_ ?_ ?_
    · intro w hE
      have h := ve_AddA (a0, a1, a2) (b0, b1, b2) w hE sa sb
      rwa [ep] at h
    · intro w hE
      have h := r11_Add (a0, a1, a2) (b0, b1, b2) w sa sb
      rwa [ep] at h
    · intro w hE
      have h := ve_SubA (a0, a1, a2) (b0, b1, b2) w hE sa sb
      rwa [eq] at h
    · intro w hE
      have h := r11_Sub (a0, a1, a2) (b0, b1, b2) w sa sb
      rwa [eq] at h
    · intro w hE
      have h := ve_ScaleA (a0, a1, a2) x w hE sa sx
      rwa [er] at h
    · intro w hE
      have h := r11_Scale (a0, a1, a2) x w sa sx
      rwa [er] at h
    · intro w hE
      have h := ve_DotA (a0, a1, a2) (b0, b1, b2) w hE sa sb
      rwa [em] at h
    · intro w hE
      have h := r11_Dot (a0, a1, a2) (b0, b1, b2) w sa sb
      rwa [em] at h
    · intro w hE
      have h := ve_CrossA (a0, a1, a2) (b0, b1, b2) w hE sa sb
      rwa [eu] at h
    · intro w hE
      have h := r11_Cross (a0, a1, a2) (b0, b1, b2) w sa sb
      rwa [eu] at h
    · intro w hE
      have h := ve_DetA (a0, a1, a2) (b0, b1, b2) (c0, c1, c2) w hE sa sb sc
      rwa [en] at h
    · intro w hE
      have h := r11_Det (a0, a1, a2) (b0, b1, b2) (c0, c1, c2) w sa sb sc
      rwa [en] at h
    · intro w hE
      exact ve_ValidA (a0, a1, a2) w hE sa
    · intro w hE
      exact r11_Valid (a0, a1, a2) w (sh20_6 sa)
  · exact la_computes_no a0 a1 a2 b0 b1 b2 c0 c1 c2 x w hE (fun N t W h => few_three ha hb hc hx false (fun k1 k2 k3 k4 => absurd ⟨k1, k2, k3, k4⟩ hs) (fun _ => rfl) N t W h)
end Go.Proofs.YtgbabmkclojgeaaGreatDoor
