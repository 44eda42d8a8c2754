/- A PART OF THE PROOF, JOINED OUT OF 2 TEXTS. -/
import Derived.Test.YtmdgfjkaamjgcaaGreatDoorPoLaw
/- Walks of the law VectorLinear. -/
namespace Go.Proofs.YtmdgfjkaamjgcaaGreatDoor
open Go.RowKit Go.Shelf Go.Sort

attribute [local go_sem] Oper.semAt_some vec_guard vec_eq

set_option maxRecDepth 100000 in
set_option maxHeartbeats 8000000 in
theorem la_linear_no0 (a0 a1 a2 b0 b1 b2 c0 c1 c2 x : ByteArray) (w : World) (hE : Env w)
    (hf : ∀ N t W, W.heap[N]? = some (.cells #[.string a0, .string a1, .string a2, .string b0, .string b1, .string b2, .string c0, .string c1, .string c2] t (0, 0)) → Calls Tryz.prog 11 #[.agg #[.string ⟨#[]⟩, .string ⟨#[]⟩, .string ⟨#[]⟩, .string ⟨#[]⟩], .string x, .slice (some ⟨N, 0, none⟩) 3 3] W fun e w' => e = .returned (.bool false) ∧ Below W.heap.size W w') :
    Calls Tryz.prog 6 #[.agg #[.string a0, .string a1, .string a2], .agg #[.string b0, .string b1, .string b2], .agg #[.string c0, .string c1, .string c2], .string x] w fun e w' => e = .returned (.bool true) ∧ Below w.heap.size w w' := by
  have HF := Lib.hid hf
  have HE := Lib.hid hE
  clear hE hf 
  go_enter Tryz.func6, Tryz.ntmps6
  go_wp2_with fail
  generalize hW : ((World.alloc w _).alloc _).alloc _ = W
  obtain ⟨hB, hsz, RA, RB, RC⟩ := A3 hW
  have RA := Lib.hid RA
  have RB := Lib.hid RB
  have RC := Lib.hid RC
  clear hW hsz
  refine (la_awake _ (HE.out.below hB)).mono ?_
  rintro e w1 ⟨rfl, hb⟩
  replace hB := bstep hB hb
  have RA := Lib.hid (keep hb RA.out)
  have RB := Lib.hid (keep hb RB.out)
  have RC := Lib.hid (keep hb RC.out)
  clear hb
  obtain ⟨RAc0, RAc1, RAc2, RAf0, RAf1, RAf2⟩ := row3 RA.out
  obtain ⟨RBc0, RBc1, RBc2, RBf0, RBf1, RBf2⟩ := row3 RB.out
  obtain ⟨RCc0, RCc1, RCc2, RCf0, RCf1, RCf2⟩ := row3 RC.out
  go_wp2_with fail
  clear RAc0 RAc1 RAc2 RAf0 RAf1 RAf2
  clear RBc0 RBc1 RBc2 RBf0 RBf1 RBf2
  clear RCc0 RCc1 RCc2 RCf0 RCf1 RCf2
  generalize hW : World.alloc _ _ = X
  obtain ⟨hb, hsz, RS⟩ := A1 hW
  replace hB := bstep hB hb
  have RA := Lib.hid (keep hb RA.out)
  have RB := Lib.hid (keep hb RB.out)
  have RC := Lib.hid (keep hb RC.out)
  clear hb
  have RS := Lib.hid RS
  clear hW hsz
  refine (HF.out _ _ _ RS.out).mono ?_
  rintro e w2 ⟨rfl, hb⟩
  replace hB := bstep hB hb
  have RA := Lib.hid (keep hb RA.out)
  have RB := Lib.hid (keep hb RB.out)
  have RC := Lib.hid (keep hb RC.out)
  clear hb RS
  go_wp2_with fail
  refine (la_awake _ (HE.out.below hB)).mono ?_
  rintro e w9 ⟨rfl, hb⟩
  go_wp2_with fail
  go_ret
  exact ⟨rfl, bstep hB hb⟩

set_option maxRecDepth 100000 in
set_option maxHeartbeats 8000000 in
theorem la_linear_no1 (a0 a1 a2 b0 b1 b2 c0 c1 c2 x : ByteArray) (w : World) (hE : Env w)
    (hf : ∀ N t W, W.heap[N]? = some (.cells #[.string a0, .string a1, .string a2, .string b0, .string b1, .string b2, .string c0, .string c1, .string c2] t (0, 0)) → Calls Tryz.prog 11 #[.agg #[.string ⟨#[]⟩, .string ⟨#[]⟩, .string ⟨#[]⟩, .string ⟨#[]⟩], .string x, .slice (some ⟨N, 0, none⟩) 3 3] W fun e w' => e = .returned (.bool true) ∧ Below W.heap.size W w')
    (h1 : ∀ w, Env w → Calls Tryz.prog 24 #[.agg #[.string a0, .string a1, .string a2]] w fun e w' => e = .returned (.bool false) ∧ Below w.heap.size w w') :
    Calls Tryz.prog 6 #[.agg #[.string a0, .string a1, .string a2], .agg #[.string b0, .string b1, .string b2], .agg #[.string c0, .string c1, .string c2], .string x] w fun e w' => e = .returned (.bool true) ∧ Below w.heap.size w w' := by
  have HF := Lib.hid hf
  have H1 := Lib.hid h1
  have HE := Lib.hid hE
  clear hE hf h1
  go_enter Tryz.func6, Tryz.ntmps6
  go_wp2_with fail
  generalize hW : ((World.alloc w _).alloc _).alloc _ = W
  obtain ⟨hB, hsz, RA, RB, RC⟩ := A3 hW
  have RA := Lib.hid RA
  have RB := Lib.hid RB
  have RC := Lib.hid RC
  clear hW hsz
  refine (la_awake _ (HE.out.below hB)).mono ?_
  rintro e w1 ⟨rfl, hb⟩
  replace hB := bstep hB hb
  have RA := Lib.hid (keep hb RA.out)
  have RB := Lib.hid (keep hb RB.out)
  have RC := Lib.hid (keep hb RC.out)
  clear hb
  obtain ⟨RAc0, RAc1, RAc2, RAf0, RAf1, RAf2⟩ := row3 RA.out
  obtain ⟨RBc0, RBc1, RBc2, RBf0, RBf1, RBf2⟩ := row3 RB.out
  obtain ⟨RCc0, RCc1, RCc2, RCf0, RCf1, RCf2⟩ := row3 RC.out
  go_wp2_with fail
  clear RAc0 RAc1 RAc2 RAf0 RAf1 RAf2
  clear RBc0 RBc1 RBc2 RBf0 RBf1 RBf2
  clear RCc0 RCc1 RCc2 RCf0 RCf1 RCf2
  generalize hW : World.alloc _ _ = X
  obtain ⟨hb, hsz, RS⟩ := A1 hW
  replace hB := bstep hB hb
  have RA := Lib.hid (keep hb RA.out)
  have RB := Lib.hid (keep hb RB.out)
  have RC := Lib.hid (keep hb RC.out)
  clear hb
  have RS := Lib.hid RS
  clear hW hsz
  refine (HF.out _ _ _ RS.out).mono ?_
  rintro e w2 ⟨rfl, hb⟩
  replace hB := bstep hB hb
  have RA := Lib.hid (keep hb RA.out)
  have RB := Lib.hid (keep hb RB.out)
  have RC := Lib.hid (keep hb RC.out)
  clear hb RS
  obtain ⟨RAc0, RAc1, RAc2, RAf0, RAf1, RAf2⟩ := row3 RA.out
  go_wp2_with fail
  clear RAc0 RAc1 RAc2 RAf0 RAf1 RAf2
  refine (H1.out _ (HE.out.below hB)).mono ?_
  rintro e w3 ⟨rfl, hb⟩
  replace hB := bstep hB hb
  have RA := Lib.hid (keep hb RA.out)
  have RB := Lib.hid (keep hb RB.out)
  have RC := Lib.hid (keep hb RC.out)
  clear hb
  go_wp2_with fail
  refine (la_awake _ (HE.out.below hB)).mono ?_
  rintro e w9 ⟨rfl, hb⟩
  go_wp2_with fail
  go_ret
  exact ⟨rfl, bstep hB hb⟩

set_option maxRecDepth 100000 in
set_option maxHeartbeats 8000000 in
theorem la_linear_no2 (a0 a1 a2 b0 b1 b2 c0 c1 c2 x : ByteArray) (w : World) (hE : Env w)
    (hf : ∀ N t W, W.heap[N]? = some (.cells #[.string a0, .string a1, .string a2, .string b0, .string b1, .string b2, .string c0, .string c1, .string c2] t (0, 0)) → Calls Tryz.prog 11 #[.agg #[.string ⟨#[]⟩, .string ⟨#[]⟩, .string ⟨#[]⟩, .string ⟨#[]⟩], .string x, .slice (some ⟨N, 0, none⟩) 3 3] W fun e w' => e = .returned (.bool true) ∧ Below W.heap.size W w')
    (h1 : ∀ w, Env w → Calls Tryz.prog 24 #[.agg #[.string a0, .string a1, .string a2]] w fun e w' => e = .returned (.bool true) ∧ Below w.heap.size w w')
    (h2 : ∀ w, Env w → Calls Tryz.prog 24 #[.agg #[.string b0, .string b1, .string b2]] w fun e w' => e = .returned (.bool false) ∧ Below w.heap.size w w') :
    Calls Tryz.prog 6 #[.agg #[.string a0, .string a1, .string a2], .agg #[.string b0, .string b1, .string b2], .agg #[.string c0, .string c1, .string c2], .string x] w fun e w' => e = .returned (.bool true) ∧ Below w.heap.size w w' := by
  have HF := Lib.hid hf
  have H1 := Lib.hid h1
  have H2 := Lib.hid h2
  have HE := Lib.hid hE
  clear hE hf h1 h2
  go_enter Tryz.func6, Tryz.ntmps6
  go_wp2_with fail
  generalize hW : ((World.alloc w _).alloc _).alloc _ = W
  obtain ⟨hB, hsz, RA, RB, RC⟩ := A3 hW
  have RA := Lib.hid RA
  have RB := Lib.hid RB
  have RC := Lib.hid RC
  clear hW hsz
  refine (la_awake _ (HE.out.below hB)).mono ?_
  rintro e w1 ⟨rfl, hb⟩
  replace hB := bstep hB hb
  have RA := Lib.hid (keep hb RA.out)
  have RB := Lib.hid (keep hb RB.out)
  have RC := Lib.hid (keep hb RC.out)
  clear hb
  obtain ⟨RAc0, RAc1, RAc2, RAf0, RAf1, RAf2⟩ := row3 RA.out
  obtain ⟨RBc0, RBc1, RBc2, RBf0, RBf1, RBf2⟩ := row3 RB.out
  obtain ⟨RCc0, RCc1, RCc2, RCf0, RCf1, RCf2⟩ := row3 RC.out
  go_wp2_with fail
  clear RAc0 RAc1 RAc2 RAf0 RAf1 RAf2
  clear RBc0 RBc1 RBc2 RBf0 RBf1 RBf2
  clear RCc0 RCc1 RCc2 RCf0 RCf1 RCf2
  generalize hW : World.alloc _ _ = X
  obtain ⟨hb, hsz, RS⟩ := A1 hW
  replace hB := bstep hB hb
  have RA := Lib.hid (keep hb RA.out)
  have RB := Lib.hid (keep hb RB.out)
  have RC := Lib.hid (keep hb RC.out)
  clear hb
  have RS := Lib.hid RS
  clear hW hsz
  refine (HF.out _ _ _ RS.out).mono ?_
  rintro e w2 ⟨rfl, hb⟩
  replace hB := bstep hB hb
  have RA := Lib.hid (keep hb RA.out)
  have RB := Lib.hid (keep hb RB.out)
  have RC := Lib.hid (keep hb RC.out)
  clear hb RS
  obtain ⟨RAc0, RAc1, RAc2, RAf0, RAf1, RAf2⟩ := row3 RA.out
  go_wp2_with fail
  clear RAc0 RAc1 RAc2 RAf0 RAf1 RAf2
  refine (H1.out _ (HE.out.below hB)).mono ?_
  rintro e w3 ⟨rfl, hb⟩
  replace hB := bstep hB hb
  have RA := Lib.hid (keep hb RA.out)
  have RB := Lib.hid (keep hb RB.out)
  have RC := Lib.hid (keep hb RC.out)
  clear hb
  obtain ⟨RBc0, RBc1, RBc2, RBf0, RBf1, RBf2⟩ := row3 RB.out
  go_wp2_with fail
  clear RBc0 RBc1 RBc2 RBf0 RBf1 RBf2
  refine (H2.out _ (HE.out.below hB)).mono ?_
  rintro e w4 ⟨rfl, hb⟩
  replace hB := bstep hB hb
  have RA := Lib.hid (keep hb RA.out)
  have RB := Lib.hid (keep hb RB.out)
  have RC := Lib.hid (keep hb RC.out)
  clear hb
  go_wp2_with fail
  refine (la_awake _ (HE.out.below hB)).mono ?_
  rintro e w9 ⟨rfl, hb⟩
  go_wp2_with fail
  go_ret
  exact ⟨rfl, bstep hB hb⟩

set_option maxRecDepth 100000 in
set_option maxHeartbeats 8000000 in
theorem la_linear_no3 (a0 a1 a2 b0 b1 b2 c0 c1 c2 x : ByteArray) (w : World) (hE : Env w)
    (hf : ∀ N t W, W.heap[N]? = some (.cells #[.string a0, .string a1, .string a2, .string b0, .string b1, .string b2, .string c0, .string c1, .string c2] t (0, 0)) → Calls Tryz.prog 11 #[.agg #[.string ⟨#[]⟩, .string ⟨#[]⟩, .string ⟨#[]⟩, .string ⟨#[]⟩], .string x, .slice (some ⟨N, 0, none⟩) 3 3] W fun e w' => e = .returned (.bool true) ∧ Below W.heap.size W w')
    (h1 : ∀ w, Env w → Calls Tryz.prog 24 #[.agg #[.string a0, .string a1, .string a2]] w fun e w' => e = .returned (.bool true) ∧ Below w.heap.size w w')
    (h2 : ∀ w, Env w → Calls Tryz.prog 24 #[.agg #[.string b0, .string b1, .string b2]] w fun e w' => e = .returned (.bool true) ∧ Below w.heap.size w w')
    (h3 : ∀ w, Env w → Calls Tryz.prog 24 #[.agg #[.string c0, .string c1, .string c2]] w fun e w' => e = .returned (.bool false) ∧ Below w.heap.size w w') :
    Calls Tryz.prog 6 #[.agg #[.string a0, .string a1, .string a2], .agg #[.string b0, .string b1, .string b2], .agg #[.string c0, .string c1, .string c2], .string x] w fun e w' => e = .returned (.bool true) ∧ Below w.heap.size w w' := by
  have HF := Lib.hid hf
  have H1 := Lib.hid h1
  have H2 := Lib.hid h2
  have H3 := Lib.hid h3
  have HE := Lib.hid hE
  clear hE hf h1 h2 h3
  go_enter Tryz.func6, Tryz.ntmps6
  go_wp2_with fail
  generalize hW : ((World.alloc w _).alloc _).alloc _ = W
  obtain ⟨hB, hsz, RA, RB, RC⟩ := A3 hW
  have RA := Lib.hid RA
  have RB := Lib.hid RB
  have RC := Lib.hid RC
  clear hW hsz
  refine (la_awake _ (HE.out.below hB)).mono ?_
  rintro e w1 ⟨rfl, hb⟩
  replace hB := bstep hB hb
  have RA := Lib.hid (keep hb RA.out)
  have RB := Lib.hid (keep hb RB.out)
  have RC := Lib.hid (keep hb RC.out)
  clear hb
  obtain ⟨RAc0, RAc1, RAc2, RAf0, RAf1, RAf2⟩ := row3 RA.out
  obtain ⟨RBc0, RBc1, RBc2, RBf0, RBf1, RBf2⟩ := row3 RB.out
  obtain ⟨RCc0, RCc1, RCc2, RCf0, RCf1, RCf2⟩ := row3 RC.out
  go_wp2_with fail
  clear RAc0 RAc1 RAc2 RAf0 RAf1 RAf2
  clear RBc0 RBc1 RBc2 RBf0 RBf1 RBf2
  clear RCc0 RCc1 RCc2 RCf0 RCf1 RCf2
  generalize hW : World.alloc _ _ = X
  obtain ⟨hb, hsz, RS⟩ := A1 hW
  replace hB := bstep hB hb
  have RA := Lib.hid (keep hb RA.out)
  have RB := Lib.hid (keep hb RB.out)
  have RC := Lib.hid (keep hb RC.out)
  clear hb
  have RS := Lib.hid RS
  clear hW hsz
  refine (HF.out _ _ _ RS.out).mono ?_
  rintro e w2 ⟨rfl, hb⟩
  replace hB := bstep hB hb
  have RA := Lib.hid (keep hb RA.out)
  have RB := Lib.hid (keep hb RB.out)
  have RC := Lib.hid (keep hb RC.out)
  clear hb RS
  obtain ⟨RAc0, RAc1, RAc2, RAf0, RAf1, RAf2⟩ := row3 RA.out
  go_wp2_with fail
  clear RAc0 RAc1 RAc2 RAf0 RAf1 RAf2
  refine (H1.out _ (HE.out.below hB)).mono ?_
  rintro e w3 ⟨rfl, hb⟩
  replace hB := bstep hB hb
  have RA := Lib.hid (keep hb RA.out)
  have RB := Lib.hid (keep hb RB.out)
  have RC := Lib.hid (keep hb RC.out)
  clear hb
  obtain ⟨RBc0, RBc1, RBc2, RBf0, RBf1, RBf2⟩ := row3 RB.out
  go_wp2_with fail
  clear RBc0 RBc1 RBc2 RBf0 RBf1 RBf2
  refine (H2.out _ (HE.out.below hB)).mono ?_
  rintro e w4 ⟨rfl, hb⟩
  replace hB := bstep hB hb
  have RA := Lib.hid (keep hb RA.out)
  have RB := Lib.hid (keep hb RB.out)
  have RC := Lib.hid (keep hb RC.out)
  clear hb
  obtain ⟨RCc0, RCc1, RCc2, RCf0, RCf1, RCf2⟩ := row3 RC.out
  go_wp2_with fail
  clear RCc0 RCc1 RCc2 RCf0 RCf1 RCf2
  refine (H3.out _ (HE.out.below hB)).mono ?_
  rintro e w5 ⟨rfl, hb⟩
  replace hB := bstep hB hb
  have RA := Lib.hid (keep hb RA.out)
  have RB := Lib.hid (keep hb RB.out)
  have RC := Lib.hid (keep hb RC.out)
  clear hb
  go_wp2_with fail
  refine (la_awake _ (HE.out.below hB)).mono ?_
  rintro e w9 ⟨rfl, hb⟩
  go_wp2_with fail
  go_ret
  exact ⟨rfl, bstep hB hb⟩

set_option maxRecDepth 100000 in
set_option maxHeartbeats 8000000 in
theorem la_linear_no4 (a0 a1 a2 b0 b1 b2 c0 c1 c2 x : ByteArray) (w : World) (hE : Env w)
    (hf : ∀ N t W, W.heap[N]? = some (.cells #[.string a0, .string a1, .string a2, .string b0, .string b1, .string b2, .string c0, .string c1, .string c2] t (0, 0)) → Calls Tryz.prog 11 #[.agg #[.string ⟨#[]⟩, .string ⟨#[]⟩, .string ⟨#[]⟩, .string ⟨#[]⟩], .string x, .slice (some ⟨N, 0, none⟩) 3 3] W fun e w' => e = .returned (.bool true) ∧ Below W.heap.size W w')
    (h1 : ∀ w, Env w → Calls Tryz.prog 24 #[.agg #[.string a0, .string a1, .string a2]] w fun e w' => e = .returned (.bool true) ∧ Below w.heap.size w w')
    (h2 : ∀ w, Env w → Calls Tryz.prog 24 #[.agg #[.string b0, .string b1, .string b2]] w fun e w' => e = .returned (.bool true) ∧ Below w.heap.size w w')
    (h3 : ∀ w, Env w → Calls Tryz.prog 24 #[.agg #[.string c0, .string c1, .string c2]] w fun e w' => e = .returned (.bool true) ∧ Below w.heap.size w w')
    (h4 : ∀ w, Env w → Calls Tryz.prog 34 #[.string x] w fun e w' => e = .returned (.bool false) ∧ Below w.heap.size w w') :
    Calls Tryz.prog 6 #[.agg #[.string a0, .string a1, .string a2], .agg #[.string b0, .string b1, .string b2], .agg #[.string c0, .string c1, .string c2], .string x] w fun e w' => e = .returned (.bool true) ∧ Below w.heap.size w w' := by
  have HF := Lib.hid hf
  have H1 := Lib.hid h1
  have H2 := Lib.hid h2
  have H3 := Lib.hid h3
  have H4 := Lib.hid h4
  have HE := Lib.hid hE
  clear hE hf h1 h2 h3 h4
  go_enter Tryz.func6, Tryz.ntmps6
  go_wp2_with fail
  generalize hW : ((World.alloc w _).alloc _).alloc _ = W
  obtain ⟨hB, hsz, RA, RB, RC⟩ := A3 hW
  have RA := Lib.hid RA
  have RB := Lib.hid RB
  have RC := Lib.hid RC
  clear hW hsz
  refine (la_awake _ (HE.out.below hB)).mono ?_
  rintro e w1 ⟨rfl, hb⟩
  replace hB := bstep hB hb
  have RA := Lib.hid (keep hb RA.out)
  have RB := Lib.hid (keep hb RB.out)
  have RC := Lib.hid (keep hb RC.out)
  clear hb
  obtain ⟨RAc0, RAc1, RAc2, RAf0, RAf1, RAf2⟩ := row3 RA.out
  obtain ⟨RBc0, RBc1, RBc2, RBf0, RBf1, RBf2⟩ := row3 RB.out
  obtain ⟨RCc0, RCc1, RCc2, RCf0, RCf1, RCf2⟩ := row3 RC.out
  go_wp2_with fail
  clear RAc0 RAc1 RAc2 RAf0 RAf1 RAf2
  clear RBc0 RBc1 RBc2 RBf0 RBf1 RBf2
  clear RCc0 RCc1 RCc2 RCf0 RCf1 RCf2
  generalize hW : World.alloc _ _ = X
  obtain ⟨hb, hsz, RS⟩ := A1 hW
  replace hB := bstep hB hb
  have RA := Lib.hid (keep hb RA.out)
  have RB := Lib.hid (keep hb RB.out)
  have RC := Lib.hid (keep hb RC.out)
  clear hb
  have RS := Lib.hid RS
  clear hW hsz
  refine (HF.out _ _ _ RS.out).mono ?_
  rintro e w2 ⟨rfl, hb⟩
  replace hB := bstep hB hb
  have RA := Lib.hid (keep hb RA.out)
  have RB := Lib.hid (keep hb RB.out)
  have RC := Lib.hid (keep hb RC.out)
  clear hb RS
  obtain ⟨RAc0, RAc1, RAc2, RAf0, RAf1, RAf2⟩ := row3 RA.out
  go_wp2_with fail
  clear RAc0 RAc1 RAc2 RAf0 RAf1 RAf2
  refine (H1.out _ (HE.out.below hB)).mono ?_
  rintro e w3 ⟨rfl, hb⟩
  replace hB := bstep hB hb
  have RA := Lib.hid (keep hb RA.out)
  have RB := Lib.hid (keep hb RB.out)
  have RC := Lib.hid (keep hb RC.out)
  clear hb
  obtain ⟨RBc0, RBc1, RBc2, RBf0, RBf1, RBf2⟩ := row3 RB.out
  go_wp2_with fail
  clear RBc0 RBc1 RBc2 RBf0 RBf1 RBf2
  refine (H2.out _ (HE.out.below hB)).mono ?_
  rintro e w4 ⟨rfl, hb⟩
  replace hB := bstep hB hb
  have RA := Lib.hid (keep hb RA.out)
  have RB := Lib.hid (keep hb RB.out)
  have RC := Lib.hid (keep hb RC.out)
  clear hb
  obtain ⟨RCc0, RCc1, RCc2, RCf0, RCf1, RCf2⟩ := row3 RC.out
  go_wp2_with fail
  clear RCc0 RCc1 RCc2 RCf0 RCf1 RCf2
  refine (H3.out _ (HE.out.below hB)).mono ?_
  rintro e w5 ⟨rfl, hb⟩
  replace hB := bstep hB hb
  have RA := Lib.hid (keep hb RA.out)
  have RB := Lib.hid (keep hb RB.out)
  have RC := Lib.hid (keep hb RC.out)
  clear hb
  go_wp2_with fail
  refine (H4.out _ (HE.out.below hB)).mono ?_
  rintro e w6 ⟨rfl, hb⟩
  replace hB := bstep hB hb
  have RA := Lib.hid (keep hb RA.out)
  have RB := Lib.hid (keep hb RB.out)
  have RC := Lib.hid (keep hb RC.out)
  clear hb
  go_wp2_with fail
  refine (la_awake _ (HE.out.below hB)).mono ?_
  rintro e w9 ⟨rfl, hb⟩
  go_wp2_with fail
  go_ret
  exact ⟨rfl, bstep hB hb⟩

set_option maxRecDepth 100000 in
set_option maxHeartbeats 8000000 in
theorem la_linear_yes (a0 a1 a2 b0 b1 b2 c0 c1 c2 s0 s1 s2 u0 u1 u2 x m n o v y k z : ByteArray) (w : World) (hE : Env w)
    (hf : ∀ N t W, W.heap[N]? = some (.cells #[.string a0, .string a1, .string a2, .string b0, .string b1, .string b2, .string c0, .string c1, .string c2] t (0, 0)) → Calls Tryz.prog 11 #[.agg #[.string ⟨#[]⟩, .string ⟨#[]⟩, .string ⟨#[]⟩, .string ⟨#[]⟩], .string x, .slice (some ⟨N, 0, none⟩) 3 3] W fun e w' => e = .returned (.bool true) ∧ Below W.heap.size W w')
    (h1 : ∀ w, Env w → Calls Tryz.prog 24 #[.agg #[.string a0, .string a1, .string a2]] w fun e w' => e = .returned (.bool true) ∧ Below w.heap.size w w')
    (h2 : ∀ w, Env w → Calls Tryz.prog 24 #[.agg #[.string b0, .string b1, .string b2]] w fun e w' => e = .returned (.bool true) ∧ Below w.heap.size w w')
    (h3 : ∀ w, Env w → Calls Tryz.prog 24 #[.agg #[.string c0, .string c1, .string c2]] w fun e w' => e = .returned (.bool true) ∧ Below w.heap.size w w')
    (h4 : ∀ w, Env w → Calls Tryz.prog 34 #[.string x] w fun e w' => e = .returned (.bool true) ∧ Below w.heap.size w w')
    (h5 : ∀ w, Env w → Calls Tryz.prog 12 #[.agg #[.string a0, .string a1, .string a2], .agg #[.string b0, .string b1, .string b2]] w fun e w' => e = .returned (.tuple #[.agg #[.string s0, .string s1, .string s2], .int .i64 0]) ∧ Below w.heap.size w w')
    (h6 : ∀ w, Env w → Calls Tryz.prog 12 #[.agg #[.string b0, .string b1, .string b2], .agg #[.string a0, .string a1, .string a2]] w fun e w' => e = .returned (.tuple #[.agg #[.string s0, .string s1, .string s2], .int .i64 0]) ∧ Below w.heap.size w w')
    (h7 : ∀ w, Env w → Calls Tryz.prog 14 #[.agg #[.string s0, .string s1, .string s2], .agg #[.string b0, .string b1, .string b2]] w fun e w' => e = .returned (.tuple #[.agg #[.string a0, .string a1, .string a2], .int .i64 0]) ∧ Below w.heap.size w w')
    (h8 : ∀ w, Env w → Calls Tryz.prog 16 #[.agg #[.string a0, .string a1, .string a2], .string x] w fun e w' => e = .returned (.tuple #[.agg #[.string u0, .string u1, .string u2], .int .i64 0]) ∧ Below w.heap.size w w')
    (h9 : ∀ w, Env w → Calls Tryz.prog 18 #[.agg #[.string s0, .string s1, .string s2], .agg #[.string c0, .string c1, .string c2]] w fun e w' => e = .returned (.tuple #[.string m, .int .i64 0]) ∧ Below w.heap.size w w')
    (h10 : ∀ w, Env w → Calls Tryz.prog 18 #[.agg #[.string a0, .string a1, .string a2], .agg #[.string c0, .string c1, .string c2]] w fun e w' => e = .returned (.tuple #[.string n, .int .i64 0]) ∧ Below w.heap.size w w')
    (h11 : ∀ w, Env w → Calls Tryz.prog 18 #[.agg #[.string b0, .string b1, .string b2], .agg #[.string c0, .string c1, .string c2]] w fun e w' => e = .returned (.tuple #[.string o, .int .i64 0]) ∧ Below w.heap.size w w')
    (h12 : ∀ w, Env w → Calls Tryz.prog 35 #[.string n, .string o] w fun e w' => e = .returned (.tuple #[.string m, .int .i64 0]) ∧ Below w.heap.size w w')
    (h13 : ∀ w, Env w → Calls Tryz.prog 18 #[.agg #[.string u0, .string u1, .string u2], .agg #[.string c0, .string c1, .string c2]] w fun e w' => e = .returned (.tuple #[.string v, .int .i64 0]) ∧ Below w.heap.size w w')
    (h14 : ∀ w, Env w → Calls Tryz.prog 32 #[.string n, .string x] w fun e w' => e = .returned (.tuple #[.string v, .int .i64 0]) ∧ Below w.heap.size w w')
    (h15 : ∀ w, Env w → Calls Tryz.prog 22 #[.agg #[.string a0, .string a1, .string a2], .agg #[.string b0, .string b1, .string b2], .agg #[.string c0, .string c1, .string c2]] w fun e w' => e = .returned (.tuple #[.string y, .int .i64 0]) ∧ Below w.heap.size w w')
    (h16 : ∀ w, Env w → Calls Tryz.prog 22 #[.agg #[.string b0, .string b1, .string b2], .agg #[.string c0, .string c1, .string c2], .agg #[.string a0, .string a1, .string a2]] w fun e w' => e = .returned (.tuple #[.string y, .int .i64 0]) ∧ Below w.heap.size w w')
    (h17 : ∀ w, Env w → Calls Tryz.prog 22 #[.agg #[.string b0, .string b1, .string b2], .agg #[.string a0, .string a1, .string a2], .agg #[.string c0, .string c1, .string c2]] w fun e w' => e = .returned (.tuple #[.string k, .int .i64 0]) ∧ Below w.heap.size w w')
    (h18 : ∀ w, Env w → Calls Tryz.prog 35 #[.string y, .string k] w fun e w' => e = .returned (.tuple #[.string ⟨#[48]⟩, .int .i64 0]) ∧ Below w.heap.size w w')
    (h19 : ∀ w, Env w → Calls Tryz.prog 22 #[.agg #[.string u0, .string u1, .string u2], .agg #[.string b0, .string b1, .string b2], .agg #[.string c0, .string c1, .string c2]] w fun e w' => e = .returned (.tuple #[.string z, .int .i64 0]) ∧ Below w.heap.size w w')
    (h20 : ∀ w, Env w → Calls Tryz.prog 32 #[.string y, .string x] w fun e w' => e = .returned (.tuple #[.string z, .int .i64 0]) ∧ Below w.heap.size w w') :
    Calls Tryz.prog 6 #[.agg #[.string a0, .string a1, .string a2], .agg #[.string b0, .string b1, .string b2], .agg #[.string c0, .string c1, .string c2], .string x] w fun e w' => e = .returned (.bool true) ∧ Below w.heap.size w w' := by
  have HF := Lib.hid hf
  have H1 := Lib.hid h1
  have H2 := Lib.hid h2
  have H3 := Lib.hid h3
  have H4 := Lib.hid h4
  have H5 := Lib.hid h5
  have H6 := Lib.hid h6
  have H7 := Lib.hid h7
  have H8 := Lib.hid h8
  have H9 := Lib.hid h9
  have H10 := Lib.hid h10
  have H11 := Lib.hid h11
  have H12 := Lib.hid h12
  have H13 := Lib.hid h13
  have H14 := Lib.hid h14
  have H15 := Lib.hid h15
  have H16 := Lib.hid h16
  have H17 := Lib.hid h17
  have H18 := Lib.hid h18
  have H19 := Lib.hid h19
  have H20 := Lib.hid h20
  have HE := Lib.hid hE
  clear hE hf h1 h2 h3 h4 h5 h6 h7 h8 h9 h10 h11 h12 h13 h14 h15 h16 h17 h18 h19 h20
  go_enter Tryz.func6, Tryz.ntmps6
  go_wp2_with fail
  generalize hW : ((World.alloc w _).alloc _).alloc _ = W
  obtain ⟨hB, hsz, RA, RB, RC⟩ := A3 hW
  have RA := Lib.hid RA
  have RB := Lib.hid RB
  have RC := Lib.hid RC
  clear hW hsz
  refine (la_awake _ (HE.out.below hB)).mono ?_
  rintro e w1 ⟨rfl, hb⟩
  replace hB := bstep hB hb
  have RA := Lib.hid (keep hb RA.out)
  have RB := Lib.hid (keep hb RB.out)
  have RC := Lib.hid (keep hb RC.out)
  clear hb
  obtain ⟨RAc0, RAc1, RAc2, RAf0, RAf1, RAf2⟩ := row3 RA.out
  obtain ⟨RBc0, RBc1, RBc2, RBf0, RBf1, RBf2⟩ := row3 RB.out
  obtain ⟨RCc0, RCc1, RCc2, RCf0, RCf1, RCf2⟩ := row3 RC.out
  go_wp2_with fail
  clear RAc0 RAc1 RAc2 RAf0 RAf1 RAf2
  clear RBc0 RBc1 RBc2 RBf0 RBf1 RBf2
  clear RCc0 RCc1 RCc2 RCf0 RCf1 RCf2
  generalize hW : World.alloc _ _ = X
  obtain ⟨hb, hsz, RS⟩ := A1 hW
  replace hB := bstep hB hb
  have RA := Lib.hid (keep hb RA.out)
  have RB := Lib.hid (keep hb RB.out)
  have RC := Lib.hid (keep hb RC.out)
  clear hb
  have RS := Lib.hid RS
  clear hW hsz
  refine (HF.out _ _ _ RS.out).mono ?_
  rintro e w2 ⟨rfl, hb⟩
  replace hB := bstep hB hb
  have RA := Lib.hid (keep hb RA.out)
  have RB := Lib.hid (keep hb RB.out)
  have RC := Lib.hid (keep hb RC.out)
  clear hb RS
  obtain ⟨RAc0, RAc1, RAc2, RAf0, RAf1, RAf2⟩ := row3 RA.out
  go_wp2_with fail
  clear RAc0 RAc1 RAc2 RAf0 RAf1 RAf2
  refine (H1.out _ (HE.out.below hB)).mono ?_
  rintro e w3 ⟨rfl, hb⟩
  replace hB := bstep hB hb
  have RA := Lib.hid (keep hb RA.out)
  have RB := Lib.hid (keep hb RB.out)
  have RC := Lib.hid (keep hb RC.out)
  clear hb
  obtain ⟨RBc0, RBc1, RBc2, RBf0, RBf1, RBf2⟩ := row3 RB.out
  go_wp2_with fail
  clear RBc0 RBc1 RBc2 RBf0 RBf1 RBf2
  refine (H2.out _ (HE.out.below hB)).mono ?_
  rintro e w4 ⟨rfl, hb⟩
  replace hB := bstep hB hb
  have RA := Lib.hid (keep hb RA.out)
  have RB := Lib.hid (keep hb RB.out)
  have RC := Lib.hid (keep hb RC.out)
  clear hb
  obtain ⟨RCc0, RCc1, RCc2, RCf0, RCf1, RCf2⟩ := row3 RC.out
  go_wp2_with fail
  clear RCc0 RCc1 RCc2 RCf0 RCf1 RCf2
  refine (H3.out _ (HE.out.below hB)).mono ?_
  rintro e w5 ⟨rfl, hb⟩
  replace hB := bstep hB hb
  have RA := Lib.hid (keep hb RA.out)
  have RB := Lib.hid (keep hb RB.out)
  have RC := Lib.hid (keep hb RC.out)
  clear hb
  go_wp2_with fail
  refine (H4.out _ (HE.out.below hB)).mono ?_
  rintro e w6 ⟨rfl, hb⟩
  replace hB := bstep hB hb
  have RA := Lib.hid (keep hb RA.out)
  have RB := Lib.hid (keep hb RB.out)
  have RC := Lib.hid (keep hb RC.out)
  clear hb
  obtain ⟨RAc0, RAc1, RAc2, RAf0, RAf1, RAf2⟩ := row3 RA.out
  obtain ⟨RBc0, RBc1, RBc2, RBf0, RBf1, RBf2⟩ := row3 RB.out
  go_wp2_with fail
  clear RAc0 RAc1 RAc2 RAf0 RAf1 RAf2
  clear RBc0 RBc1 RBc2 RBf0 RBf1 RBf2
  refine (H5.out _ (HE.out.below hB)).mono ?_
  rintro e w7 ⟨rfl, hb⟩
  replace hB := bstep hB hb
  have RA := Lib.hid (keep hb RA.out)
  have RB := Lib.hid (keep hb RB.out)
  have RC := Lib.hid (keep hb RC.out)
  clear hb
  obtain ⟨RAc0, RAc1, RAc2, RAf0, RAf1, RAf2⟩ := row3 RA.out
  obtain ⟨RBc0, RBc1, RBc2, RBf0, RBf1, RBf2⟩ := row3 RB.out
  have qRA := lp2 RA.out
  have qRB := lp2 RB.out
  go_wp2_with fail
  clear RAc0 RAc1 RAc2 RAf0 RAf1 RAf2
  clear RBc0 RBc1 RBc2 RBf0 RBf1 RBf2
  clear qRA qRB
  generalize hW : World.alloc _ _ = V7
  obtain ⟨hb, hsz, RE⟩ := A1 hW
  replace hB := bstep hB hb
  have RA := Lib.hid (keep hb RA.out)
  have RB := Lib.hid (keep hb RB.out)
  have RC := Lib.hid (keep hb RC.out)
  clear hb
  have RE := Lib.hid RE
  clear hW hsz
  refine (H6.out _ (HE.out.below hB)).mono ?_
  rintro e w8 ⟨rfl, hb⟩
  replace hB := bstep hB hb
  have RA := Lib.hid (keep hb RA.out)
  have RB := Lib.hid (keep hb RB.out)
  have RC := Lib.hid (keep hb RC.out)
  have RE := Lib.hid (keep hb RE.out)
  clear hb
  obtain ⟨REc0, REc1, REc2, REf0, REf1, REf2⟩ := row3 RE.out
  obtain ⟨RBc0, RBc1, RBc2, RBf0, RBf1, RBf2⟩ := row3 RB.out
  have qRE := lp2 RE.out
  have qRB := lp2 RB.out
  go_wp2_with fail
  clear REc0 REc1 REc2 REf0 REf1 REf2
  clear RBc0 RBc1 RBc2 RBf0 RBf1 RBf2
  clear qRE qRB
  generalize hW : World.alloc _ _ = V8
  obtain ⟨hb, hsz, RF⟩ := A1 hW
  replace hB := bstep hB hb
  have RA := Lib.hid (keep hb RA.out)
  have RB := Lib.hid (keep hb RB.out)
  have RC := Lib.hid (keep hb RC.out)
  have RE := Lib.hid (keep hb RE.out)
  clear hb
  have RF := Lib.hid RF
  clear hW hsz
  refine (H7.out _ (HE.out.below hB)).mono ?_
  rintro e w9 ⟨rfl, hb⟩
  replace hB := bstep hB hb
  have RA := Lib.hid (keep hb RA.out)
  have RB := Lib.hid (keep hb RB.out)
  have RC := Lib.hid (keep hb RC.out)
  have RE := Lib.hid (keep hb RE.out)
  have RF := Lib.hid (keep hb RF.out)
  clear hb
  obtain ⟨RAc0, RAc1, RAc2, RAf0, RAf1, RAf2⟩ := row3 RA.out
  have qRA := lp2 RA.out
  go_wp2_with fail
  clear RAc0 RAc1 RAc2 RAf0 RAf1 RAf2
  clear qRA
  generalize hW : World.alloc _ _ = V9
  obtain ⟨hb, hsz, RG⟩ := A1 hW
  replace hB := bstep hB hb
  have RA := Lib.hid (keep hb RA.out)
  have RB := Lib.hid (keep hb RB.out)
  have RC := Lib.hid (keep hb RC.out)
  have RE := Lib.hid (keep hb RE.out)
  have RF := Lib.hid (keep hb RF.out)
  clear hb
  have RG := Lib.hid RG
  clear hW hsz
  refine (H8.out _ (HE.out.below hB)).mono ?_
  rintro e w10 ⟨rfl, hb⟩
  replace hB := bstep hB hb
  have RA := Lib.hid (keep hb RA.out)
  have RB := Lib.hid (keep hb RB.out)
  have RC := Lib.hid (keep hb RC.out)
  have RE := Lib.hid (keep hb RE.out)
  have RF := Lib.hid (keep hb RF.out)
  have RG := Lib.hid (keep hb RG.out)
  clear hb
  obtain ⟨REc0, REc1, REc2, REf0, REf1, REf2⟩ := row3 RE.out
  obtain ⟨RCc0, RCc1, RCc2, RCf0, RCf1, RCf2⟩ := row3 RC.out
  have qRE := lp2 RE.out
  have qRC := lp2 RC.out
  go_wp2_with fail
  clear REc0 REc1 REc2 REf0 REf1 REf2
  clear RCc0 RCc1 RCc2 RCf0 RCf1 RCf2
  clear qRE qRC
  generalize hW : World.alloc _ _ = V10
  obtain ⟨hb, hsz, RH⟩ := A1 hW
  replace hB := bstep hB hb
  have RA := Lib.hid (keep hb RA.out)
  have RB := Lib.hid (keep hb RB.out)
  have RC := Lib.hid (keep hb RC.out)
  have RE := Lib.hid (keep hb RE.out)
  have RF := Lib.hid (keep hb RF.out)
  have RG := Lib.hid (keep hb RG.out)
  clear hb
  have RH := Lib.hid RH
  clear hW hsz
  refine (H9.out _ (HE.out.below hB)).mono ?_
  rintro e w11 ⟨rfl, hb⟩
  replace hB := bstep hB hb
  have RA := Lib.hid (keep hb RA.out)
  have RB := Lib.hid (keep hb RB.out)
  have RC := Lib.hid (keep hb RC.out)
  have RE := Lib.hid (keep hb RE.out)
  have RF := Lib.hid (keep hb RF.out)
  have RG := Lib.hid (keep hb RG.out)
  have RH := Lib.hid (keep hb RH.out)
  clear hb
  obtain ⟨RAc0, RAc1, RAc2, RAf0, RAf1, RAf2⟩ := row3 RA.out
  obtain ⟨RCc0, RCc1, RCc2, RCf0, RCf1, RCf2⟩ := row3 RC.out
  go_wp2_with fail
  clear RAc0 RAc1 RAc2 RAf0 RAf1 RAf2
  clear RCc0 RCc1 RCc2 RCf0 RCf1 RCf2
  refine (H10.out _ (HE.out.below hB)).mono ?_
  rintro e w12 ⟨rfl, hb⟩
  replace hB := bstep hB hb
  have RA := Lib.hid (keep hb RA.out)
  have RB := Lib.hid (keep hb RB.out)
  have RC := Lib.hid (keep hb RC.out)
  have RE := Lib.hid (keep hb RE.out)
  have RF := Lib.hid (keep hb RF.out)
  have RG := Lib.hid (keep hb RG.out)
  have RH := Lib.hid (keep hb RH.out)
  clear hb
  obtain ⟨RBc0, RBc1, RBc2, RBf0, RBf1, RBf2⟩ := row3 RB.out
  obtain ⟨RCc0, RCc1, RCc2, RCf0, RCf1, RCf2⟩ := row3 RC.out
  go_wp2_with fail
  clear RBc0 RBc1 RBc2 RBf0 RBf1 RBf2
  clear RCc0 RCc1 RCc2 RCf0 RCf1 RCf2
  refine (H11.out _ (HE.out.below hB)).mono ?_
  rintro e w13 ⟨rfl, hb⟩
  replace hB := bstep hB hb
  have RA := Lib.hid (keep hb RA.out)
  have RB := Lib.hid (keep hb RB.out)
  have RC := Lib.hid (keep hb RC.out)
  have RE := Lib.hid (keep hb RE.out)
  have RF := Lib.hid (keep hb RF.out)
  have RG := Lib.hid (keep hb RG.out)
  have RH := Lib.hid (keep hb RH.out)
  clear hb
  go_wp2_with fail
  refine (H12.out _ (HE.out.below hB)).mono ?_
  rintro e w14 ⟨rfl, hb⟩
  replace hB := bstep hB hb
  have RA := Lib.hid (keep hb RA.out)
  have RB := Lib.hid (keep hb RB.out)
  have RC := Lib.hid (keep hb RC.out)
  have RE := Lib.hid (keep hb RE.out)
  have RF := Lib.hid (keep hb RF.out)
  have RG := Lib.hid (keep hb RG.out)
  have RH := Lib.hid (keep hb RH.out)
  clear hb
  obtain ⟨RHc0, RHc1, RHc2, RHf0, RHf1, RHf2⟩ := row3 RH.out
  obtain ⟨RCc0, RCc1, RCc2, RCf0, RCf1, RCf2⟩ := row3 RC.out
  go_wp2_with fail
  clear RHc0 RHc1 RHc2 RHf0 RHf1 RHf2
  clear RCc0 RCc1 RCc2 RCf0 RCf1 RCf2
  refine (H13.out _ (HE.out.below hB)).mono ?_
  rintro e w15 ⟨rfl, hb⟩
  replace hB := bstep hB hb
  have RA := Lib.hid (keep hb RA.out)
  have RB := Lib.hid (keep hb RB.out)
  have RC := Lib.hid (keep hb RC.out)
  have RE := Lib.hid (keep hb RE.out)
  have RF := Lib.hid (keep hb RF.out)
  have RG := Lib.hid (keep hb RG.out)
  have RH := Lib.hid (keep hb RH.out)
  clear hb
  go_wp2_with fail
  refine (H14.out _ (HE.out.below hB)).mono ?_
  rintro e w16 ⟨rfl, hb⟩
  replace hB := bstep hB hb
  have RA := Lib.hid (keep hb RA.out)
  have RB := Lib.hid (keep hb RB.out)
  have RC := Lib.hid (keep hb RC.out)
  have RE := Lib.hid (keep hb RE.out)
  have RF := Lib.hid (keep hb RF.out)
  have RG := Lib.hid (keep hb RG.out)
  have RH := Lib.hid (keep hb RH.out)
  clear hb
  obtain ⟨RAc0, RAc1, RAc2, RAf0, RAf1, RAf2⟩ := row3 RA.out
  obtain ⟨RBc0, RBc1, RBc2, RBf0, RBf1, RBf2⟩ := row3 RB.out
  obtain ⟨RCc0, RCc1, RCc2, RCf0, RCf1, RCf2⟩ := row3 RC.out
  go_wp2_with fail
  clear RAc0 RAc1 RAc2 RAf0 RAf1 RAf2
  clear RBc0 RBc1 RBc2 RBf0 RBf1 RBf2
  clear RCc0 RCc1 RCc2 RCf0 RCf1 RCf2
  refine (H15.out _ (HE.out.below hB)).mono ?_
  rintro e w17 ⟨rfl, hb⟩
  replace hB := bstep hB hb
  have RA := Lib.hid (keep hb RA.out)
  have RB := Lib.hid (keep hb RB.out)
  have RC := Lib.hid (keep hb RC.out)
  have RE := Lib.hid (keep hb RE.out)
  have RF := Lib.hid (keep hb RF.out)
  have RG := Lib.hid (keep hb RG.out)
  have RH := Lib.hid (keep hb RH.out)
  clear hb
  obtain ⟨RBc0, RBc1, RBc2, RBf0, RBf1, RBf2⟩ := row3 RB.out
  obtain ⟨RCc0, RCc1, RCc2, RCf0, RCf1, RCf2⟩ := row3 RC.out
  obtain ⟨RAc0, RAc1, RAc2, RAf0, RAf1, RAf2⟩ := row3 RA.out
  go_wp2_with fail
  clear RBc0 RBc1 RBc2 RBf0 RBf1 RBf2
  clear RCc0 RCc1 RCc2 RCf0 RCf1 RCf2
  clear RAc0 RAc1 RAc2 RAf0 RAf1 RAf2
  refine (H16.out _ (HE.out.below hB)).mono ?_
  rintro e w18 ⟨rfl, hb⟩
  replace hB := bstep hB hb
  have RA := Lib.hid (keep hb RA.out)
  have RB := Lib.hid (keep hb RB.out)
  have RC := Lib.hid (keep hb RC.out)
  have RE := Lib.hid (keep hb RE.out)
  have RF := Lib.hid (keep hb RF.out)
  have RG := Lib.hid (keep hb RG.out)
  have RH := Lib.hid (keep hb RH.out)
  clear hb
  obtain ⟨RBc0, RBc1, RBc2, RBf0, RBf1, RBf2⟩ := row3 RB.out
  obtain ⟨RAc0, RAc1, RAc2, RAf0, RAf1, RAf2⟩ := row3 RA.out
  obtain ⟨RCc0, RCc1, RCc2, RCf0, RCf1, RCf2⟩ := row3 RC.out
  go_wp2_with fail
  clear RBc0 RBc1 RBc2 RBf0 RBf1 RBf2
  clear RAc0 RAc1 RAc2 RAf0 RAf1 RAf2
  clear RCc0 RCc1 RCc2 RCf0 RCf1 RCf2
  refine (H17.out _ (HE.out.below hB)).mono ?_
  rintro e w19 ⟨rfl, hb⟩
  replace hB := bstep hB hb
  have RA := Lib.hid (keep hb RA.out)
  have RB := Lib.hid (keep hb RB.out)
  have RC := Lib.hid (keep hb RC.out)
  have RE := Lib.hid (keep hb RE.out)
  have RF := Lib.hid (keep hb RF.out)
  have RG := Lib.hid (keep hb RG.out)
  have RH := Lib.hid (keep hb RH.out)
  clear hb
  go_wp2_with fail
  refine (H18.out _ (HE.out.below hB)).mono ?_
  rintro e w20 ⟨rfl, hb⟩
  replace hB := bstep hB hb
  have RA := Lib.hid (keep hb RA.out)
  have RB := Lib.hid (keep hb RB.out)
  have RC := Lib.hid (keep hb RC.out)
  have RE := Lib.hid (keep hb RE.out)
  have RF := Lib.hid (keep hb RF.out)
  have RG := Lib.hid (keep hb RG.out)
  have RH := Lib.hid (keep hb RH.out)
  clear hb
  obtain ⟨RHc0, RHc1, RHc2, RHf0, RHf1, RHf2⟩ := row3 RH.out
  obtain ⟨RBc0, RBc1, RBc2, RBf0, RBf1, RBf2⟩ := row3 RB.out
  obtain ⟨RCc0, RCc1, RCc2, RCf0, RCf1, RCf2⟩ := row3 RC.out
  go_wp2_with fail
  clear RHc0 RHc1 RHc2 RHf0 RHf1 RHf2
  clear RBc0 RBc1 RBc2 RBf0 RBf1 RBf2
  clear RCc0 RCc1 RCc2 RCf0 RCf1 RCf2
  refine (H19.out _ (HE.out.below hB)).mono ?_
  rintro e w21 ⟨rfl, hb⟩
  replace hB := bstep hB hb
  have RA := Lib.hid (keep hb RA.out)
  have RB := Lib.hid (keep hb RB.out)
  have RC := Lib.hid (keep hb RC.out)
  have RE := Lib.hid (keep hb RE.out)
  have RF := Lib.hid (keep hb RF.out)
  have RG := Lib.hid (keep hb RG.out)
  have RH := Lib.hid (keep hb RH.out)
  clear hb
  go_wp2_with fail
  refine (H20.out _ (HE.out.below hB)).mono ?_
  rintro e w22 ⟨rfl, hb⟩
  replace hB := bstep hB hb
  have RA := Lib.hid (keep hb RA.out)
  have RB := Lib.hid (keep hb RB.out)
  have RC := Lib.hid (keep hb RC.out)
  have RE := Lib.hid (keep hb RE.out)
  have RF := Lib.hid (keep hb RF.out)
  have RG := Lib.hid (keep hb RG.out)
  have RH := Lib.hid (keep hb RH.out)
  clear hb
  obtain ⟨REc0, REc1, REc2, REf0, REf1, REf2⟩ := row3 RE.out
  obtain ⟨RFc0, RFc1, RFc2, RFf0, RFf1, RFf2⟩ := row3 RF.out
  obtain ⟨RGc0, RGc1, RGc2, RGf0, RGf1, RGf2⟩ := row3 RG.out
  obtain ⟨RAc0, RAc1, RAc2, RAf0, RAf1, RAf2⟩ := row3 RA.out
  go_wp2_with fail
  go_ret
  exact ⟨rfl, hB⟩
end Go.Proofs.YtmdgfjkaamjgcaaGreatDoor

/- The law VectorLinear answers true at whatever strings. -/
namespace Go.Proofs.YtmdgfjkaamjgcaaGreatDoor
open Go.RowKit Go.Shelf Go.Sort

theorem la_Few3 {a0 a1 a2 b0 b1 b2 c0 c1 c2 : ByteArray} {t : TypeId} (ha : Mx (a0, a1, a2)) (hb : Mx (b0, b1, b2)) (hc : Mx (c0, c1, c2))
    (r : Bool) (h0 : Sh20 (a0, a1, a2) → Sh20 (b0, b1, b2) → Sh20 (c0, c1, c2) → r = true) (h1 : ¬ (Sh20 (a0, a1, a2) ∧ Sh20 (b0, b1, b2) ∧ Sh20 (c0, c1, c2)) → r = false) (N : Nat) (W : World)
    (h : W.heap[N]? = some (.cells #[.string a0, .string a1, .string a2, .string b0, .string b1, .string b2, .string c0, .string c1, .string c2] t (0, 0))) :
    Calls Tryz.prog 37 #[.slice (some ⟨N, 0, none⟩) 3 3] W fun e w' => e = .returned (.bool r) ∧ Below W.heap.size W w' := by
  refine la_Few N 0 3 3 _ r W (by decide) (vecsAt3 h) ?_ (fun hv => h0 (hv 0 (by decide)) (hv 1 (by decide)) (hv 2 (by decide))) ?_
  · intro i hi
    match i, hi with
    | 0, _ => exact ha
    | 1, _ => exact hb
    | 2, _ => exact hc
  · rintro ⟨i, hi, hv⟩
    refine h1 (fun ⟨k1, k2, k3⟩ => hv ?_)
    match i, hi with
    | 0, _ => exact k1
    | 1, _ => exact k2
    | 2, _ => exact k3

theorem few_three {a0 a1 a2 b0 b1 b2 c0 c1 c2 x : ByteArray} (ha : Mx (a0, a1, a2)) (hb : Mx (b0, b1, b2)) (hc : Mx (c0, c1, c2)) (hx : x.size ≤ 9223372036854775807)
    (f : Bool) (h0 : Sh20 (a0, a1, a2) → Sh20 (b0, b1, b2) → Sh20 (c0, c1, c2) → x.size ≤ 20 → f = true) (h1 : ¬ (Sh20 (a0, a1, a2) ∧ Sh20 (b0, b1, b2) ∧ Sh20 (c0, c1, c2) ∧ x.size ≤ 20) → f = false) (N : Nat) (t : TypeId) (W : World)
    (h : W.heap[N]? = some (.cells #[.string a0, .string a1, .string a2, .string b0, .string b1, .string b2, .string c0, .string c1, .string c2] t (0, 0))) :
    Calls Tryz.prog 11 #[.agg #[.string ⟨#[]⟩, .string ⟨#[]⟩, .string ⟨#[]⟩, .string ⟨#[]⟩], .string x, .slice (some ⟨N, 0, none⟩) 3 3] W fun e w' => e = .returned (.bool f) ∧ Below W.heap.size W w' := by
  obtain ⟨r3, k0, k1⟩ : ∃ r3 : Bool, (Sh20 (a0, a1, a2) → Sh20 (b0, b1, b2) → Sh20 (c0, c1, c2) → r3 = true) ∧ (¬ (Sh20 (a0, a1, a2) ∧ Sh20 (b0, b1, b2) ∧ Sh20 (c0, c1, c2)) → r3 = false) := by
    by_cases k : Sh20 (a0, a1, a2) ∧ Sh20 (b0, b1, b2) ∧ Sh20 (c0, c1, c2)
    · exact ⟨true, fun _ _ _ => rfl, fun hn => absurd k hn⟩
    · exact ⟨false, fun x y z => absurd ⟨x, y, z⟩ k, fun _ => rfl⟩
  have hfew := la_few ⟨#[]⟩ ⟨#[]⟩ ⟨#[]⟩ ⟨#[]⟩ x (.slice (some ⟨N, 0, none⟩) 3 3) true r3 W mkE hx
    (fun N' W' h' => la_Few1 ⟨mkE, mkE, mkE⟩ true (fun _ => rfl) (fun hn => absurd ⟨by decide, by decide, by decide⟩ hn) N' W' h')
    (fun W' hB => la_Few3 ha hb hc r3 k0 k1 N W' (keep hB h))
  have e : fewR ⟨#[]⟩ x true r3 = f := by
    unfold fewR
    by_cases k : Sh20 (a0, a1, a2) ∧ Sh20 (b0, b1, b2) ∧ Sh20 (c0, c1, c2)
    · rw [k0 k.1 k.2.1 k.2.2]
      by_cases kx : x.size ≤ 20
      · rw [h0 k.1 k.2.1 k.2.2 kx, decide_eq_true kx]; rfl
      · rw [h1 (fun q => kx q.2.2.2), decide_eq_false kx]; rfl
    · rw [k1 k, h1 (fun q => k ⟨q.1, q.2.1, q.2.2.1⟩), Bool.and_false]
  rwa [e] at hfew

theorem m_addc (a b : V3) : addV b a = addV a b := by simp only [addV, V3.mk.injEq]; exact ⟨by grind, by grind, by grind⟩
theorem m_back (a b : V3) : subV (addV a b) b = a := by
  obtain ⟨x, y, z⟩ := a
  simp only [addV, subV, V3.mk.injEq]; exact ⟨by grind, by grind, by grind⟩
theorem m_dotadd (a b c : V3) : dotV a c + dotV b c = dotV (addV a b) c := by simp only [addV, dotV]; grind
theorem m_dotscale (a c : V3) (x : Rat) : dotV a c * x = dotV (scaleV a x) c := by simp only [scaleV, dotV]; grind
theorem m_detcyc (a b c : V3) : detV b c a = detV a b c := by simp only [detV, dotV, crossV]; grind
theorem m_detback (a b c : V3) : detV a b c + detV b a c = 0 := by simp only [detV, dotV, crossV]; grind
theorem m_detscale (a b c : V3) (x : Rat) : detV a b c * x = detV (scaleV a x) b c := by simp only [detV, dotV, crossV, scaleV]; grind

theorem sz_det {k : Nat} {a b c : V3} (ha : SzV k a) (hb : SzV k b) (hc : SzV k c) : Sz (160 * k) (detV a b c) :=
  (sz_dot (ha.mono (show k ≤ 8 * k by omega)) (szV_cross hb hc)).mono (by omega)

theorem valid_rs (a : V3) (h : SzV 21 a) (w : World) (hE : Env w) : Calls Tryz.prog 24 #[vV a] w fun e w' => e = .returned (.bool true) ∧ Below w.heap.size w w' := by
  have h := ve_Valid (rs a.x) (rs a.y) (rs a.z) w hE (sh_of h (by decide)).1 (sh_of h (by decide)).2.1 (sh_of h (by decide)).2.2
  rwa [rvB_rs, rvB_rs, rvB_rs] at h

theorem la_linear_rs (a b c : V3) (x : Rat) (w : World) (hE : Env w) (ha : SzV 21 a) (hb : SzV 21 b) (hc : SzV 21 c) (hx : Sz 21 x) (sa : Sh20 (rs a.x, rs a.y, rs a.z)) (sb : Sh20 (rs b.x, rs b.y, rs b.z)) (sc : Sh20 (rs c.x, rs c.y, rs c.z)) (sx : (rs x).size ≤ 20) :
    Calls Tryz.prog 6 #[vV a, vV b, vV c, .string (rs x)] w fun e w' => e = .returned (.bool true) ∧ Below w.heap.size w w' := by
  have hs := szV_add ha hb
  have hu := szV_scale ha hx
  have up : ∀ {k : Nat} {v : V3}, SzV k v → k ≤ 50000 → SzV 500000 v := fun h k => h.mono (Nat.le_trans k (by decide))
  have ud : ∀ {k : Nat} {v : V3}, SzV k v → k ≤ 50000 → SzV 50000 v := fun h k => h.mono k
  refine la_linear_yes _ _ _ _ _ _ _ _ _ (rs (addV a b).x) (rs (addV a b).y) (rs (addV a b).z) (rs (scaleV a x).x) (rs (scaleV a x).y) (rs (scaleV a x).z) _
    (rs (dotV (addV a b) c)) (rs (dotV a c)) (rs (dotV b c)) (rs (dotV (scaleV a x) c)) (rs (detV a b c)) (rs (detV b a c)) (rs (detV (scaleV a x) b c)) w hE
    (fun N t W h => few_three (sh_mx sa) (sh_mx sb) (sh_mx sc) (Nat.le_trans sx (by decide)) true (fun _ _ _ _ => rfl) (fun hn => absurd ⟨sa, sb, sc, sx⟩ hn) N t W h)
    (valid_rs a ha) (valid_rs b hb) (valid_rs c hc) ?_
    (fun w hE => ve_Add a b w hE (up ha (by decide)) (up hb (by decide))) ?_ ?_
    (fun w hE => ve_Scale a x w hE (up ha (by decide)) (hx.mono (by decide)))
    (fun w hE => ve_Dot _ c w hE (up hs (by decide)) (up hc (by decide))) (fun w hE => ve_Dot a c w hE (up ha (by decide)) (up hc (by decide))) (fun w hE => ve_Dot b c w hE (up hb (by decide)) (up hc (by decide)))
    ?_ (fun w hE => ve_Dot _ c w hE (up hu (by decide)) (up hc (by decide))) ?_
    (fun w hE => ve_Det a b c w hE (ud ha (by decide)) (ud hb (by decide)) (ud hc (by decide))) ?_ (fun w hE => ve_Det b a c w hE (ud hb (by decide)) (ud ha (by decide)) (ud hc (by decide)))
    ?_ (fun w hE => ve_Det _ b c w hE (ud hu (by decide)) (ud hb (by decide)) (ud hc (by decide))) ?_
  · intro w hE
    have h := ra_Valid (rs x) w hE (Nat.le_trans sx (by decide))
    rwa [rvB_rs] at h
  · intro w hE
    have h := ve_Add b a w hE (up hb (by decide)) (up ha (by decide))
    rwa [m_addc] at h
  · intro w hE
    have h := ve_Sub (addV a b) b w hE (up hs (by decide)) (up hb (by decide))
    rwa [m_back] at h
  · intro w hE
    have h := ra_Add (dotV a c) (dotV b c) w hE ((sz_dot ha hc).mono (by decide)) ((sz_dot hb hc).mono (by decide))
    rwa [m_dotadd] at h
  · intro w hE
    have h := ra_Mul (dotV a c) x w hE ((sz_dot ha hc).mono (by decide)) (hx.mono (by decide))
    rwa [m_dotscale] at h
  · intro w hE
    have h := ve_Det b c a w hE (ud hb (by decide)) (ud hc (by decide)) (ud ha (by decide))
    rwa [m_detcyc] at h
  · intro w hE
    have h := ra_Add (detV a b c) (detV b a c) w hE ((sz_det ha hb hc).mono (by decide)) ((sz_det hb ha hc).mono (by decide))
    rwa [m_detback, rs_0] at h
  · intro w hE
    have h := ra_Mul (detV a b c) x w hE ((sz_det ha hb hc).mono (by decide)) (hx.mono (by decide))
    rwa [m_detscale] at h

theorem la_linear (a0 a1 a2 b0 b1 b2 c0 c1 c2 x : ByteArray) (w : World) (hE : Env w) (ha : Mx (a0, a1, a2)) (hb : Mx (b0, b1, b2)) (hc : Mx (c0, c1, c2)) (hx : x.size ≤ 9223372036854775807) :
    Calls Tryz.prog 6 #[.agg #[.string a0, .string a1, .string a2], .agg #[.string b0, .string b1, .string b2], .agg #[.string c0, .string c1, .string c2], .string x] w fun e w' => e = .returned (.bool true) ∧ Below w.heap.size w w' := by
  by_cases hs : Sh20 (a0, a1, a2) ∧ Sh20 (b0, b1, b2) ∧ Sh20 (c0, c1, c2) ∧ x.size ≤ 20
  · have hF := fun N t W h => few_three ha hb hc hx true (fun _ _ _ _ => rfl) (fun hn => absurd hs hn) N t W h
    obtain ⟨sa, sb, sc, sx⟩ := hs
    have fw : ∀ {s : ByteArray}, s.size ≤ 20 → s.size ≤ 10000000 := fun h => Nat.le_trans h (by decide)
    have V1 := fun w hE => ve_Valid a0 a1 a2 w hE (fw sa.1) (fw sa.2.1) (fw sa.2.2)
    have V2 := fun w hE => ve_Valid b0 b1 b2 w hE (fw sb.1) (fw sb.2.1) (fw sb.2.2)
    have V3 := fun w hE => ve_Valid c0 c1 c2 w hE (fw sc.1) (fw sc.2.1) (fw sc.2.2)
    have V4 := fun w hE => ra_Valid x w hE (fw sx)
    cases va : (rvB a0 && rvB a1 && rvB a2) <;> rw [va] at V1
    · exact la_linear_no1 a0 a1 a2 b0 b1 b2 c0 c1 c2 x w hE hF V1
    cases vb : (rvB b0 && rvB b1 && rvB b2) <;> rw [vb] at V2
    · exact la_linear_no2 a0 a1 a2 b0 b1 b2 c0 c1 c2 x w hE hF V1 V2
    cases vc : (rvB c0 && rvB c1 && rvB c2) <;> rw [vc] at V3
    · exact la_linear_no3 a0 a1 a2 b0 b1 b2 c0 c1 c2 x w hE hF V1 V2 V3
    cases vx : rvB x <;> rw [vx] at V4
    · exact la_linear_no4 a0 a1 a2 b0 b1 b2 c0 c1 c2 x w hE hF V1 V2 V3 V4
    obtain ⟨a, e0, e1, e2, za⟩ := vec_of_text sa va
    obtain ⟨b, f0, f1, f2, zb⟩ := vec_of_text sb vb
    obtain ⟨c, g0, g1, g2, zc⟩ := vec_of_text sc vc
    obtain ⟨q, ex, zx⟩ := rat_of_text sx vx
    subst e0 e1 e2 f0 f1 f2 g0 g1 g2 ex
    exact la_linear_rs a b c q w hE za zb zc zx sa sb sc sx
  · exact la_linear_no0 a0 a1 a2 b0 b1 b2 c0 c1 c2 x w hE (fun N t W h => few_three ha hb hc hx false (fun k1 k2 k3 k4 => absurd ⟨k1, k2, k3, k4⟩ hs) (fun _ => rfl) N t W h)
end Go.Proofs.YtmdgfjkaamjgcaaGreatDoor
