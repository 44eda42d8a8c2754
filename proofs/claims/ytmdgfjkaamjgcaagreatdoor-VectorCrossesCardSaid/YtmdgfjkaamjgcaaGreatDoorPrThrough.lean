/- A PART OF THE PROOF, JOINED OUT OF 3 TEXTS. -/
import Derived.Test.YtmdgfjkaamjgcaaGreatDoorPqLinear
/- Walks of the program's package vector: Through, where it fails. -/
namespace Go.Proofs.YtmdgfjkaamjgcaaGreatDoor
open Go.RowKit Go.Shelf Go.Sort

attribute [local go_sem] Oper.semAt_some vec_guard vec_eq

set_option maxRecDepth 100000 in
set_option maxHeartbeats 8000000 in
theorem ve_Through_flat (a0 a1 a2 b0 b1 b2 c0 c1 c2 u0 u1 u2 v0 v1 v2 n0 n1 n2 d : ByteArray) (w : World) (hE : Env w) (ha : ShV (a0, a1, a2)) (hb : ShV (b0, b1, b2)) (hc : ShV (c0, c1, c2)) (h0 : chk3 (a0, a1, a2) (b0, b1, b2) (c0, c1, c2) = 0)
    (h1 : ∀ w, Env w → Calls Tryz.prog 46 #[fnV 52, .agg #[.string b0, .string b1, .string b2], .agg #[.string a0, .string a1, .string a2]] w fun e w' => e = .returned (.agg #[.string u0, .string u1, .string u2]) ∧ Below w.heap.size w w')
    (h2 : ∀ w, Env w → Calls Tryz.prog 46 #[fnV 52, .agg #[.string c0, .string c1, .string c2], .agg #[.string a0, .string a1, .string a2]] w fun e w' => e = .returned (.agg #[.string v0, .string v1, .string v2]) ∧ Below w.heap.size w w')
    (h3 : ∀ w, Env w → Calls Tryz.prog 62 #[.agg #[.string u0, .string u1, .string u2], .agg #[.string v0, .string v1, .string v2]] w fun e w' => e = .returned (.agg #[.string n0, .string n1, .string n2]) ∧ Below w.heap.size w w')
    (h4 : ∀ w, Env w → Calls Tryz.prog 59 #[.agg #[.string n0, .string n1, .string n2], .agg #[.string a0, .string a1, .string a2]] w fun e w' => e = .returned (.string d) ∧ Below w.heap.size w w')
    (h5 : ∀ w, Env w → Calls Tryz.prog 66 #[.agg #[.string n0, .string n1, .string n2, .string d]] w fun e w' => e = .returned (.int .i64 1) ∧ Below w.heap.size w w') :
    Calls Tryz.prog 28 #[.agg #[.string a0, .string a1, .string a2], .agg #[.string b0, .string b1, .string b2], .agg #[.string c0, .string c1, .string c2]] w fun e w' => e = .returned (.tuple #[.agg #[.string ⟨#[]⟩, .string ⟨#[]⟩, .string ⟨#[]⟩, .string ⟨#[]⟩], .int .i64 16]) ∧ Below w.heap.size w w' := by
  have HC := Lib.hid (fun N t W hE h => ve_check3 (N := N) (t := t) ha hb hc W hE h)
  rw [h0] at HC
  have H1 := Lib.hid h1
  have H2 := Lib.hid h2
  have H3 := Lib.hid h3
  have H4 := Lib.hid h4
  have H5 := Lib.hid h5
  have HE := Lib.hid hE
  clear hE h1 h2 h3 h4 h5 h0 ha hb hc
  go_enter Tryz.func28, Tryz.ntmps28
  go_wp2_with fail
  generalize hW : ((((World.alloc w _).alloc _).alloc _).alloc _).alloc _ = W
  obtain ⟨hB, hsz, R3, R4, R5, R6, RS⟩ := A5 hW
  have R3 := Lib.hid R3
  have R4 := Lib.hid R4
  have R5 := Lib.hid R5
  have R6 := Lib.hid R6
  have RS := Lib.hid RS
  clear hW hsz
  refine (HC.out _ _ _ (HE.out.below hB) RS.out).mono ?_
  rintro e w1 ⟨rfl, hb⟩
  replace hB := bstep hB hb
  have R3 := Lib.hid (keep hb R3.out)
  have R4 := Lib.hid (keep hb R4.out)
  have R5 := Lib.hid (keep hb R5.out)
  have R6 := Lib.hid (keep hb R6.out)
  clear hb
  go_wp2_with fail
  go_cut [9] (fun x wc => ∃ p : Nat, x = .pointer (some ⟨p, 0, none⟩) ∧ Hid (wc.heap[p]? = some (.cells #[.string n0, .string n1, .string n2] 24 (0, 0))) ∧ Hid (wc.heap[w.heap.size]? = some (.cells #[.string a0, .string a1, .string a2] 24 (0, 0))) ∧
      Hid (wc.heap[w.heap.size + 3]? = some (.cells #[.string ⟨#[]⟩, .string ⟨#[]⟩, .string ⟨#[]⟩, .string ⟨#[]⟩] 28 (0, 0))) ∧ Below w.heap.size w wc ∧ w.heap.size + 3 < p)
  case first =>
    obtain ⟨R3c0, R3c1, R3c2, R3f0, R3f1, R3f2⟩ := row3 R3.out
    obtain ⟨R4c0, R4c1, R4c2, R4f0, R4f1, R4f2⟩ := row3 R4.out
    obtain ⟨R5c0, R5c1, R5c2, R5f0, R5f1, R5f2⟩ := row3 R5.out
    have lw := lt_of_row R6.out
    have hB0 := hB.drew
    first
    | go_region_held3 (fun w' => w'.cell? ⟨w.heap.size, 0, none⟩ = some (.string a0) ∧ w'.cell? ⟨w.heap.size, 1, none⟩ = some (.string a1) ∧ w'.cell? ⟨w.heap.size, 2, none⟩ = some (.string a2) ∧ w'.cell? ⟨w.heap.size + 1, 0, none⟩ = some (.string b0) ∧ w'.cell? ⟨w.heap.size + 1, 1, none⟩ = some (.string b1) ∧ w'.cell? ⟨w.heap.size + 1, 2, none⟩ = some (.string b2) ∧ w'.cell? ⟨w.heap.size + 2, 0, none⟩ = some (.string c0) ∧ w'.cell? ⟨w.heap.size + 2, 1, none⟩ = some (.string c1) ∧ w'.cell? ⟨w.heap.size + 2, 2, none⟩ = some (.string c2)) (first | with_reducible exact k9D ⟨R3c0, R3c1, R3c2, R4c0, R4c1, R4c2, R5c0, R5c1, R5c2⟩ | with_reducible exact ⟨by with_reducible assumption, by with_reducible assumption, by with_reducible assumption, by with_reducible assumption, by with_reducible assumption, by with_reducible assumption, by with_reducible assumption, by with_reducible assumption, by with_reducible assumption⟩ | with_reducible exact k9L ⟨by with_reducible assumption, by with_reducible assumption, by with_reducible assumption, by with_reducible assumption, by with_reducible assumption, by with_reducible assumption, by with_reducible assumption, by with_reducible assumption, by with_reducible assumption⟩ | with_reducible exact k9A ⟨R3c0, R3c1, R3c2, R4c0, R4c1, R4c2, R5c0, R5c1, R5c2⟩ | with_reducible exact k9S (by omega) (by omega) (by omega) (k9S (by omega) (by omega) (by omega) (k9S (by omega) (by omega) (by omega) ⟨by with_reducible assumption, by with_reducible assumption, by with_reducible assumption, by with_reducible assumption, by with_reducible assumption, by with_reducible assumption, by with_reducible assumption, by with_reducible assumption, by with_reducible assumption⟩)))
        (first
          | ((first | go_at_call 46); (with_reducible refine (H1.out _ (HE.out.below (by first | exact hB0 | exact bstep hB0 (A1 rfl).1 | exact (bstep hB0 (A1 rfl).1).drew))).mono ?_); rintro e w2 ⟨rfl, hb⟩; have hB1 : Below w.heap.size w w2 := (by first | exact bstep hB0 hb | exact bstep (bstep hB0 (A1 rfl).1) hb | exact bstep (bstep hB0 (A1 rfl).1).drew hb); (first | (with_reducible have R3 := Lib.hid (keep hb R3.out)) | (with_reducible have R3 := Lib.hid (keep hb (old1 R3.out))) | (with_reducible have R3 := Lib.hid (keep hb (oldD R3.out))) | (with_reducible have R3 := Lib.hid (keep hb (old1D R3.out)))); (first | (with_reducible have R4 := Lib.hid (keep hb R4.out)) | (with_reducible have R4 := Lib.hid (keep hb (old1 R4.out))) | (with_reducible have R4 := Lib.hid (keep hb (oldD R4.out))) | (with_reducible have R4 := Lib.hid (keep hb (old1D R4.out)))); (first | (with_reducible have R5 := Lib.hid (keep hb R5.out)) | (with_reducible have R5 := Lib.hid (keep hb (old1 R5.out))) | (with_reducible have R5 := Lib.hid (keep hb (oldD R5.out))) | (with_reducible have R5 := Lib.hid (keep hb (old1D R5.out)))); (first | (with_reducible have R6 := Lib.hid (keep hb R6.out)) | (with_reducible have R6 := Lib.hid (keep hb (old1 R6.out))) | (with_reducible have R6 := Lib.hid (keep hb (oldD R6.out))) | (with_reducible have R6 := Lib.hid (keep hb (old1D R6.out)))); (first | (have RN := Lib.hid (keep hb RN.out)) | (with_reducible have RN := Lib.hid (keep hb (heap_alloc_new _ _))) | (with_reducible have RN := Lib.hid (keep hb (newD _ _))) | skip); obtain ⟨R3d0, R3d1, R3d2, R3g0, R3g1, R3g2⟩ := row3 R3.out; obtain ⟨R4d0, R4d1, R4d2, R4g0, R4g1, R4g2⟩ := row3 R4.out; obtain ⟨R5d0, R5d1, R5d2, R5g0, R5g1, R5g2⟩ := row3 R5.out; have lw2 := lt_of_row R6.out; (first | (have RNx := row3 RN.out; obtain ⟨RNd0, RNd1, RNd2, RNg0, RNg1, RNg2⟩ := RNx) | skip); clear hb)
          | ((first | go_at_call 46); (with_reducible refine (H2.out _ (HE.out.below (by first | exact hB1 | exact bstep hB1 (A1 rfl).1 | exact (bstep hB1 (A1 rfl).1).drew))).mono ?_); rintro e w3 ⟨rfl, hb⟩; have hB2 : Below w.heap.size w w3 := (by first | exact bstep hB1 hb | exact bstep (bstep hB1 (A1 rfl).1) hb | exact bstep (bstep hB1 (A1 rfl).1).drew hb); (first | (with_reducible have R3 := Lib.hid (keep hb R3.out)) | (with_reducible have R3 := Lib.hid (keep hb (old1 R3.out))) | (with_reducible have R3 := Lib.hid (keep hb (oldD R3.out))) | (with_reducible have R3 := Lib.hid (keep hb (old1D R3.out)))); (first | (with_reducible have R4 := Lib.hid (keep hb R4.out)) | (with_reducible have R4 := Lib.hid (keep hb (old1 R4.out))) | (with_reducible have R4 := Lib.hid (keep hb (oldD R4.out))) | (with_reducible have R4 := Lib.hid (keep hb (old1D R4.out)))); (first | (with_reducible have R5 := Lib.hid (keep hb R5.out)) | (with_reducible have R5 := Lib.hid (keep hb (old1 R5.out))) | (with_reducible have R5 := Lib.hid (keep hb (oldD R5.out))) | (with_reducible have R5 := Lib.hid (keep hb (old1D R5.out)))); (first | (with_reducible have R6 := Lib.hid (keep hb R6.out)) | (with_reducible have R6 := Lib.hid (keep hb (old1 R6.out))) | (with_reducible have R6 := Lib.hid (keep hb (oldD R6.out))) | (with_reducible have R6 := Lib.hid (keep hb (old1D R6.out)))); (first | (have RN := Lib.hid (keep hb RN.out)) | (with_reducible have RN := Lib.hid (keep hb (heap_alloc_new _ _))) | (with_reducible have RN := Lib.hid (keep hb (newD _ _))) | skip); obtain ⟨R3d0, R3d1, R3d2, R3g0, R3g1, R3g2⟩ := row3 R3.out; obtain ⟨R4d0, R4d1, R4d2, R4g0, R4g1, R4g2⟩ := row3 R4.out; obtain ⟨R5d0, R5d1, R5d2, R5g0, R5g1, R5g2⟩ := row3 R5.out; have lw3 := lt_of_row R6.out; (first | (have RNx := row3 RN.out; obtain ⟨RNd0, RNd1, RNd2, RNg0, RNg1, RNg2⟩ := RNx) | skip); clear hb)
          | ((first | go_at_call 62); (with_reducible refine (H3.out _ (HE.out.below (by first | exact hB2 | exact bstep hB2 (A1 rfl).1 | exact (bstep hB2 (A1 rfl).1).drew))).mono ?_); rintro e w4 ⟨rfl, hb⟩; have hB3 : Below w.heap.size w w4 := (by first | exact bstep hB2 hb | exact bstep (bstep hB2 (A1 rfl).1) hb | exact bstep (bstep hB2 (A1 rfl).1).drew hb); (first | (with_reducible have R3 := Lib.hid (keep hb R3.out)) | (with_reducible have R3 := Lib.hid (keep hb (old1 R3.out))) | (with_reducible have R3 := Lib.hid (keep hb (oldD R3.out))) | (with_reducible have R3 := Lib.hid (keep hb (old1D R3.out)))); (first | (with_reducible have R4 := Lib.hid (keep hb R4.out)) | (with_reducible have R4 := Lib.hid (keep hb (old1 R4.out))) | (with_reducible have R4 := Lib.hid (keep hb (oldD R4.out))) | (with_reducible have R4 := Lib.hid (keep hb (old1D R4.out)))); (first | (with_reducible have R5 := Lib.hid (keep hb R5.out)) | (with_reducible have R5 := Lib.hid (keep hb (old1 R5.out))) | (with_reducible have R5 := Lib.hid (keep hb (oldD R5.out))) | (with_reducible have R5 := Lib.hid (keep hb (old1D R5.out)))); (first | (with_reducible have R6 := Lib.hid (keep hb R6.out)) | (with_reducible have R6 := Lib.hid (keep hb (old1 R6.out))) | (with_reducible have R6 := Lib.hid (keep hb (oldD R6.out))) | (with_reducible have R6 := Lib.hid (keep hb (old1D R6.out)))); (first | (have RN := Lib.hid (keep hb RN.out)) | (with_reducible have RN := Lib.hid (keep hb (heap_alloc_new _ _))) | (with_reducible have RN := Lib.hid (keep hb (newD _ _))) | skip); obtain ⟨R3d0, R3d1, R3d2, R3g0, R3g1, R3g2⟩ := row3 R3.out; obtain ⟨R4d0, R4d1, R4d2, R4g0, R4g1, R4g2⟩ := row3 R4.out; obtain ⟨R5d0, R5d1, R5d2, R5g0, R5g1, R5g2⟩ := row3 R5.out; have lw4 := lt_of_row R6.out; (first | (have RNx := row3 RN.out; obtain ⟨RNd0, RNd1, RNd2, RNg0, RNg1, RNg2⟩ := RNx) | skip); clear hb))
    | fail
    all_goals
      go_wp2_with fail
      go_meet
      first
      | with_reducible exact ⟨_, rfl, Lib.hid (heap_alloc_new _ _), Lib.hid (old1 R3.out), Lib.hid (old1 R6.out), bstep hB3 (A1 rfl).1, by omega⟩
      | with_reducible exact ⟨_, rfl, Lib.hid (store3 RN.out _ _ _), Lib.hid (store3_other (by omega) R3.out _ _ _), Lib.hid (store3_other (by omega) R6.out _ _ _), store3_below hB3 (by omega) _ _ _, by omega⟩
  case rest =>
    obtain ⟨p, rfl, RP, R3, R6, hB, hp⟩ := hcut
    clear R4 R5
    go_wp2_with fail
    go_cut [10] (fun x wd => ∃ q : Nat, x = .pointer (some ⟨q, 0, none⟩) ∧ Hid (wd.heap[q]? = some (.cells #[.string n0, .string n1, .string n2, .string d] 28 (0, 0))) ∧
      Hid (wd.heap[w.heap.size + 3]? = some (.cells #[.string ⟨#[]⟩, .string ⟨#[]⟩, .string ⟨#[]⟩, .string ⟨#[]⟩] 28 (0, 0))) ∧ Below w.heap.size w wd)
    case first =>
      obtain ⟨RPc0, RPc1, RPc2, RPf0, RPf1, RPf2⟩ := row3 RP.out
      obtain ⟨R3c0, R3c1, R3c2, R3f0, R3f1, R3f2⟩ := row3 R3.out
      have lw := lt_of_row R6.out
      have lp := lt_of_row RP.out
      have hB0 := hB.drew
      first
      | go_region_held3 (fun w' => w'.cell? ⟨p, 0, none⟩ = some (.string n0) ∧ w'.cell? ⟨p, 1, none⟩ = some (.string n1) ∧ w'.cell? ⟨p, 2, none⟩ = some (.string n2) ∧ w'.cell? ⟨w.heap.size, 0, none⟩ = some (.string a0) ∧ w'.cell? ⟨w.heap.size, 1, none⟩ = some (.string a1) ∧ w'.cell? ⟨w.heap.size, 2, none⟩ = some (.string a2)) (first | with_reducible exact k6pD ⟨RPc0, RPc1, RPc2, R3c0, R3c1, R3c2⟩ | with_reducible exact ⟨by with_reducible assumption, by with_reducible assumption, by with_reducible assumption, by with_reducible assumption, by with_reducible assumption, by with_reducible assumption⟩ | with_reducible exact k6pL ⟨by with_reducible assumption, by with_reducible assumption, by with_reducible assumption, by with_reducible assumption, by with_reducible assumption, by with_reducible assumption⟩ | with_reducible exact k6pA ⟨RPc0, RPc1, RPc2, R3c0, R3c1, R3c2⟩ | with_reducible exact k6pS (by omega) (by omega) (k6pS (by omega) (by omega) (k6pS (by omega) (by omega) (k6pS (by omega) (by omega) ⟨by with_reducible assumption, by with_reducible assumption, by with_reducible assumption, by with_reducible assumption, by with_reducible assumption, by with_reducible assumption⟩))))
          (first
            | ((first | go_at_call 59); (with_reducible refine (H4.out _ (HE.out.below (by first | exact hB0 | exact (bstep hB (A1 rfl).1).drew))).mono ?_); rintro e w5 ⟨rfl, hb⟩; have hB1 : Below w.heap.size w w5 := (by first | exact bstep hB0 hb | exact bstep (bstep hB (A1 rfl).1).drew hb); (first | (with_reducible have RP := Lib.hid (keep hb RP.out)) | (with_reducible have RP := Lib.hid (keep hb (old1 RP.out))) | (with_reducible have RP := Lib.hid (keep hb (oldD RP.out))) | (with_reducible have RP := Lib.hid (keep hb (old1D RP.out)))); (first | (with_reducible have R3 := Lib.hid (keep hb R3.out)) | (with_reducible have R3 := Lib.hid (keep hb (old1 R3.out))) | (with_reducible have R3 := Lib.hid (keep hb (oldD R3.out))) | (with_reducible have R3 := Lib.hid (keep hb (old1D R3.out)))); (first | (with_reducible have R6 := Lib.hid (keep hb R6.out)) | (with_reducible have R6 := Lib.hid (keep hb (old1 R6.out))) | (with_reducible have R6 := Lib.hid (keep hb (oldD R6.out))) | (with_reducible have R6 := Lib.hid (keep hb (old1D R6.out)))); (first | (with_reducible have RN := Lib.hid (keep hb (heap_alloc_new _ _))) | (with_reducible have RN := Lib.hid (keep hb (newD _ _))) | skip); obtain ⟨d0, d1, d2, g0, g1, g2⟩ := row3 RP.out; obtain ⟨j0, j1, j2, k0, k1, k2⟩ := row3 R3.out; have lw5 := lt_of_row R6.out; (first | (have RNx := row4 RN.out; obtain ⟨RNd0, RNd1, RNd2, RNd3, RNg0, RNg1, RNg2, RNg3⟩ := RNx) | skip); clear hb))
      | fail
      all_goals
        go_wp2_with fail
        go_meet
        first
        | with_reducible exact ⟨_, rfl, Lib.hid (heap_alloc_new _ _), Lib.hid (old1 R6.out), bstep hB1 (A1 rfl).1⟩
        | with_reducible exact ⟨_, rfl, Lib.hid (store4 RN.out _ _ _ _), Lib.hid (store4_other (by omega) R6.out _ _ _ _), store4_below hB1 (by omega) _ _ _ _⟩
    case rest =>
      obtain ⟨q, rfl, RQ, R6, hB⟩ := hcut
      obtain ⟨q0, q1, q2, q3, q4, q5, q6, q7⟩ := row4 RQ.out
      go_wp2_with fail
      clear q0 q1 q2 q3 q4 q5 q6 q7
      refine (H5.out _ (HE.out.below hB)).mono ?_
      rintro e w9 ⟨rfl, hb⟩
      replace hB := bstep hB hb
      have RQ := Lib.hid (keep hb RQ.out)
      have R6 := Lib.hid (keep hb R6.out)
      clear hb
      obtain ⟨q0, q1, q2, q3, q4, q5, q6, q7⟩ := row4 RQ.out
      obtain ⟨r0, r1, r2, r3, r4, r5, r6, r7⟩ := row4 R6.out
      go_wp2_with fail
      exact bodyPost_ret (res_ct rfl plane_row rfl (store4 R6.out _ _ _ _) rfl) rfl ⟨rfl, store4_below hB (by omega) _ _ _ _⟩


set_option maxRecDepth 100000 in
set_option maxHeartbeats 8000000 in
theorem ve_Through_bad (a0 a1 a2 b0 b1 b2 c0 c1 c2 : ByteArray) (w : World) (hE : Env w) (ha : ShV (a0, a1, a2)) (hb : ShV (b0, b1, b2)) (hc : ShV (c0, c1, c2)) (h0 : chk3 (a0, a1, a2) (b0, b1, b2) (c0, c1, c2) = 1) :
    Calls Tryz.prog 28 #[.agg #[.string a0, .string a1, .string a2], .agg #[.string b0, .string b1, .string b2], .agg #[.string c0, .string c1, .string c2]] w fun e w' => e = .returned (.tuple #[.agg #[.string ⟨#[]⟩, .string ⟨#[]⟩, .string ⟨#[]⟩, .string ⟨#[]⟩], .int .i64 1]) ∧ Below w.heap.size w w' := by
  have HC := Lib.hid (fun N t W hE h => ve_check3 (N := N) (t := t) ha hb hc W hE h)
  rw [h0] at HC
  have HE := Lib.hid hE
  clear hE h0 ha hb hc
  go_enter Tryz.func28, Tryz.ntmps28
  go_wp2_with fail
  generalize hW : ((((World.alloc w _).alloc _).alloc _).alloc _).alloc _ = W
  obtain ⟨hB, hsz, R3, R4, R5, R6, RS⟩ := A5 hW
  have R3 := Lib.hid R3
  have R4 := Lib.hid R4
  have R5 := Lib.hid R5
  have R6 := Lib.hid R6
  have RS := Lib.hid RS
  clear hW hsz
  refine (HC.out _ _ _ (HE.out.below hB) RS.out).mono ?_
  rintro e w1 ⟨rfl, hb⟩
  replace hB := bstep hB hb
  have R6 := Lib.hid (keep hb R6.out)
  clear hb
  obtain ⟨r0, r1, r2, r3, r4, r5, r6, r7⟩ := row4 R6.out
  go_wp2_with fail
  exact bodyPost_ret (res_ct rfl plane_row rfl (store4 R6.out _ _ _ _) rfl) rfl ⟨rfl, store4_below hB (by omega) _ _ _ _⟩
end Go.Proofs.YtmdgfjkaamjgcaaGreatDoor

/- Walks of the law VectorThrough. -/
namespace Go.Proofs.YtmdgfjkaamjgcaaGreatDoor
open Go.RowKit Go.Shelf Go.Sort

attribute [local go_sem] Oper.semAt_some vec_guard vec_eq pla_guard pla_eq

set_option maxRecDepth 100000 in
set_option maxHeartbeats 8000000 in
theorem la_through_no0 (a0 a1 a2 b0 b1 b2 c0 c1 c2 d0 d1 d2 : ByteArray) (w : World) (hE : Env w)
    (hf : ∀ N t W, W.heap[N]? = some (.cells #[.string a0, .string a1, .string a2, .string b0, .string b1, .string b2, .string c0, .string c1, .string c2, .string d0, .string d1, .string d2] t (0, 0)) → Calls Tryz.prog 11 #[.agg #[.string ⟨#[]⟩, .string ⟨#[]⟩, .string ⟨#[]⟩, .string ⟨#[]⟩], .string ⟨#[]⟩, .slice (some ⟨N, 0, none⟩) 4 4] W fun e w' => e = .returned (.bool false) ∧ Below W.heap.size W w') :
    Calls Tryz.prog 7 #[.agg #[.string a0, .string a1, .string a2], .agg #[.string b0, .string b1, .string b2], .agg #[.string c0, .string c1, .string c2], .agg #[.string d0, .string d1, .string d2]] w fun e w' => e = .returned (.bool true) ∧ Below w.heap.size w w' := by
  have HF := Lib.hid hf
  have HE := Lib.hid hE
  clear hE hf 
  go_enter Tryz.func7, Tryz.ntmps7
  go_wp2_with fail
  generalize hW : (((World.alloc w _).alloc _).alloc _).alloc _ = W
  obtain ⟨hB, hsz, RA, RB, RC, RD⟩ := A4 hW
  have RA := Lib.hid RA
  have RB := Lib.hid RB
  have RC := Lib.hid RC
  have RD := Lib.hid RD
  clear hW hsz
  refine (la_awake _ (HE.out.below hB)).mono ?_
  rintro e w1 ⟨rfl, hb⟩
  replace hB := bstep hB hb
  have RA := Lib.hid (keep hb RA.out)
  have RB := Lib.hid (keep hb RB.out)
  have RC := Lib.hid (keep hb RC.out)
  have RD := Lib.hid (keep hb RD.out)
  clear hb
  obtain ⟨RAc0, RAc1, RAc2, RAf0, RAf1, RAf2⟩ := row3 RA.out
  obtain ⟨RBc0, RBc1, RBc2, RBf0, RBf1, RBf2⟩ := row3 RB.out
  obtain ⟨RCc0, RCc1, RCc2, RCf0, RCf1, RCf2⟩ := row3 RC.out
  obtain ⟨RDc0, RDc1, RDc2, RDf0, RDf1, RDf2⟩ := row3 RD.out
  go_wp2_with fail
  clear RAc0 RAc1 RAc2 RAf0 RAf1 RAf2
  clear RBc0 RBc1 RBc2 RBf0 RBf1 RBf2
  clear RCc0 RCc1 RCc2 RCf0 RCf1 RCf2
  clear RDc0 RDc1 RDc2 RDf0 RDf1 RDf2
  generalize hW : World.alloc _ _ = X
  obtain ⟨hb, hsz, RS⟩ := A1 hW
  replace hB := bstep hB hb
  have RA := Lib.hid (keep hb RA.out)
  have RB := Lib.hid (keep hb RB.out)
  have RC := Lib.hid (keep hb RC.out)
  have RD := Lib.hid (keep hb RD.out)
  clear hb
  have RS := Lib.hid RS
  clear hW hsz
  refine (HF.out _ _ _ RS.out).mono ?_
  rintro e w2 ⟨rfl, hb⟩
  replace hB := bstep hB hb
  have RA := Lib.hid (keep hb RA.out)
  have RB := Lib.hid (keep hb RB.out)
  have RC := Lib.hid (keep hb RC.out)
  have RD := Lib.hid (keep hb RD.out)
  clear hb RS
  go_wp2_with fail
  refine (la_awake _ (HE.out.below hB)).mono ?_
  rintro e w9 ⟨rfl, hb⟩
  go_wp2_with fail
  go_ret
  exact ⟨rfl, bstep hB hb⟩

set_option maxRecDepth 100000 in
set_option maxHeartbeats 8000000 in
theorem la_through_no1 (a0 a1 a2 b0 b1 b2 c0 c1 c2 d0 d1 d2 : ByteArray) (w : World) (hE : Env w)
    (hf : ∀ N t W, W.heap[N]? = some (.cells #[.string a0, .string a1, .string a2, .string b0, .string b1, .string b2, .string c0, .string c1, .string c2, .string d0, .string d1, .string d2] t (0, 0)) → Calls Tryz.prog 11 #[.agg #[.string ⟨#[]⟩, .string ⟨#[]⟩, .string ⟨#[]⟩, .string ⟨#[]⟩], .string ⟨#[]⟩, .slice (some ⟨N, 0, none⟩) 4 4] W fun e w' => e = .returned (.bool true) ∧ Below W.heap.size W w')
    (h1 : ∀ w, Env w → Calls Tryz.prog 24 #[.agg #[.string d0, .string d1, .string d2]] w fun e w' => e = .returned (.bool false) ∧ Below w.heap.size w w') :
    Calls Tryz.prog 7 #[.agg #[.string a0, .string a1, .string a2], .agg #[.string b0, .string b1, .string b2], .agg #[.string c0, .string c1, .string c2], .agg #[.string d0, .string d1, .string d2]] w fun e w' => e = .returned (.bool true) ∧ Below w.heap.size w w' := by
  have HF := Lib.hid hf
  have H1 := Lib.hid h1
  have HE := Lib.hid hE
  clear hE hf h1
  go_enter Tryz.func7, Tryz.ntmps7
  go_wp2_with fail
  generalize hW : (((World.alloc w _).alloc _).alloc _).alloc _ = W
  obtain ⟨hB, hsz, RA, RB, RC, RD⟩ := A4 hW
  have RA := Lib.hid RA
  have RB := Lib.hid RB
  have RC := Lib.hid RC
  have RD := Lib.hid RD
  clear hW hsz
  refine (la_awake _ (HE.out.below hB)).mono ?_
  rintro e w1 ⟨rfl, hb⟩
  replace hB := bstep hB hb
  have RA := Lib.hid (keep hb RA.out)
  have RB := Lib.hid (keep hb RB.out)
  have RC := Lib.hid (keep hb RC.out)
  have RD := Lib.hid (keep hb RD.out)
  clear hb
  obtain ⟨RAc0, RAc1, RAc2, RAf0, RAf1, RAf2⟩ := row3 RA.out
  obtain ⟨RBc0, RBc1, RBc2, RBf0, RBf1, RBf2⟩ := row3 RB.out
  obtain ⟨RCc0, RCc1, RCc2, RCf0, RCf1, RCf2⟩ := row3 RC.out
  obtain ⟨RDc0, RDc1, RDc2, RDf0, RDf1, RDf2⟩ := row3 RD.out
  go_wp2_with fail
  clear RAc0 RAc1 RAc2 RAf0 RAf1 RAf2
  clear RBc0 RBc1 RBc2 RBf0 RBf1 RBf2
  clear RCc0 RCc1 RCc2 RCf0 RCf1 RCf2
  clear RDc0 RDc1 RDc2 RDf0 RDf1 RDf2
  generalize hW : World.alloc _ _ = X
  obtain ⟨hb, hsz, RS⟩ := A1 hW
  replace hB := bstep hB hb
  have RA := Lib.hid (keep hb RA.out)
  have RB := Lib.hid (keep hb RB.out)
  have RC := Lib.hid (keep hb RC.out)
  have RD := Lib.hid (keep hb RD.out)
  clear hb
  have RS := Lib.hid RS
  clear hW hsz
  refine (HF.out _ _ _ RS.out).mono ?_
  rintro e w2 ⟨rfl, hb⟩
  replace hB := bstep hB hb
  have RA := Lib.hid (keep hb RA.out)
  have RB := Lib.hid (keep hb RB.out)
  have RC := Lib.hid (keep hb RC.out)
  have RD := Lib.hid (keep hb RD.out)
  clear hb RS
  obtain ⟨RDc0, RDc1, RDc2, RDf0, RDf1, RDf2⟩ := row3 RD.out
  go_wp2_with fail
  clear RDc0 RDc1 RDc2 RDf0 RDf1 RDf2
  refine (H1.out _ (HE.out.below hB)).mono ?_
  rintro e w3 ⟨rfl, hb⟩
  replace hB := bstep hB hb
  have RA := Lib.hid (keep hb RA.out)
  have RB := Lib.hid (keep hb RB.out)
  have RC := Lib.hid (keep hb RC.out)
  have RD := Lib.hid (keep hb RD.out)
  clear hb
  go_wp2_with fail
  refine (la_awake _ (HE.out.below hB)).mono ?_
  rintro e w9 ⟨rfl, hb⟩
  go_wp2_with fail
  go_ret
  exact ⟨rfl, bstep hB hb⟩

set_option maxRecDepth 100000 in
set_option maxHeartbeats 8000000 in
theorem la_through_bad1 (a0 a1 a2 b0 b1 b2 c0 c1 c2 d0 d1 d2 : ByteArray) (w : World) (hE : Env w)
    (hf : ∀ N t W, W.heap[N]? = some (.cells #[.string a0, .string a1, .string a2, .string b0, .string b1, .string b2, .string c0, .string c1, .string c2, .string d0, .string d1, .string d2] t (0, 0)) → Calls Tryz.prog 11 #[.agg #[.string ⟨#[]⟩, .string ⟨#[]⟩, .string ⟨#[]⟩, .string ⟨#[]⟩], .string ⟨#[]⟩, .slice (some ⟨N, 0, none⟩) 4 4] W fun e w' => e = .returned (.bool true) ∧ Below W.heap.size W w')
    (h1 : ∀ w, Env w → Calls Tryz.prog 24 #[.agg #[.string d0, .string d1, .string d2]] w fun e w' => e = .returned (.bool true) ∧ Below w.heap.size w w')
    (h2 : ∀ w, Env w → Calls Tryz.prog 28 #[.agg #[.string a0, .string a1, .string a2], .agg #[.string b0, .string b1, .string b2], .agg #[.string c0, .string c1, .string c2]] w fun e w' => e = .returned (.tuple #[.agg #[.string ⟨#[]⟩, .string ⟨#[]⟩, .string ⟨#[]⟩, .string ⟨#[]⟩], .int .i64 1]) ∧ Below w.heap.size w w') :
    Calls Tryz.prog 7 #[.agg #[.string a0, .string a1, .string a2], .agg #[.string b0, .string b1, .string b2], .agg #[.string c0, .string c1, .string c2], .agg #[.string d0, .string d1, .string d2]] w fun e w' => e = .returned (.bool true) ∧ Below w.heap.size w w' := by
  have HF := Lib.hid hf
  have H1 := Lib.hid h1
  have H2 := Lib.hid h2
  have HE := Lib.hid hE
  clear hE hf h1 h2
  go_enter Tryz.func7, Tryz.ntmps7
  go_wp2_with fail
  generalize hW : (((World.alloc w _).alloc _).alloc _).alloc _ = W
  obtain ⟨hB, hsz, RA, RB, RC, RD⟩ := A4 hW
  have RA := Lib.hid RA
  have RB := Lib.hid RB
  have RC := Lib.hid RC
  have RD := Lib.hid RD
  clear hW hsz
  refine (la_awake _ (HE.out.below hB)).mono ?_
  rintro e w1 ⟨rfl, hb⟩
  replace hB := bstep hB hb
  have RA := Lib.hid (keep hb RA.out)
  have RB := Lib.hid (keep hb RB.out)
  have RC := Lib.hid (keep hb RC.out)
  have RD := Lib.hid (keep hb RD.out)
  clear hb
  obtain ⟨RAc0, RAc1, RAc2, RAf0, RAf1, RAf2⟩ := row3 RA.out
  obtain ⟨RBc0, RBc1, RBc2, RBf0, RBf1, RBf2⟩ := row3 RB.out
  obtain ⟨RCc0, RCc1, RCc2, RCf0, RCf1, RCf2⟩ := row3 RC.out
  obtain ⟨RDc0, RDc1, RDc2, RDf0, RDf1, RDf2⟩ := row3 RD.out
  go_wp2_with fail
  clear RAc0 RAc1 RAc2 RAf0 RAf1 RAf2
  clear RBc0 RBc1 RBc2 RBf0 RBf1 RBf2
  clear RCc0 RCc1 RCc2 RCf0 RCf1 RCf2
  clear RDc0 RDc1 RDc2 RDf0 RDf1 RDf2
  generalize hW : World.alloc _ _ = X
  obtain ⟨hb, hsz, RS⟩ := A1 hW
  replace hB := bstep hB hb
  have RA := Lib.hid (keep hb RA.out)
  have RB := Lib.hid (keep hb RB.out)
  have RC := Lib.hid (keep hb RC.out)
  have RD := Lib.hid (keep hb RD.out)
  clear hb
  have RS := Lib.hid RS
  clear hW hsz
  refine (HF.out _ _ _ RS.out).mono ?_
  rintro e w2 ⟨rfl, hb⟩
  replace hB := bstep hB hb
  have RA := Lib.hid (keep hb RA.out)
  have RB := Lib.hid (keep hb RB.out)
  have RC := Lib.hid (keep hb RC.out)
  have RD := Lib.hid (keep hb RD.out)
  clear hb RS
  obtain ⟨RDc0, RDc1, RDc2, RDf0, RDf1, RDf2⟩ := row3 RD.out
  go_wp2_with fail
  clear RDc0 RDc1 RDc2 RDf0 RDf1 RDf2
  refine (H1.out _ (HE.out.below hB)).mono ?_
  rintro e w3 ⟨rfl, hb⟩
  replace hB := bstep hB hb
  have RA := Lib.hid (keep hb RA.out)
  have RB := Lib.hid (keep hb RB.out)
  have RC := Lib.hid (keep hb RC.out)
  have RD := Lib.hid (keep hb RD.out)
  clear hb
  obtain ⟨RAc0, RAc1, RAc2, RAf0, RAf1, RAf2⟩ := row3 RA.out
  obtain ⟨RBc0, RBc1, RBc2, RBf0, RBf1, RBf2⟩ := row3 RB.out
  obtain ⟨RCc0, RCc1, RCc2, RCf0, RCf1, RCf2⟩ := row3 RC.out
  go_wp2_with fail
  clear RAc0 RAc1 RAc2 RAf0 RAf1 RAf2
  clear RBc0 RBc1 RBc2 RBf0 RBf1 RBf2
  clear RCc0 RCc1 RCc2 RCf0 RCf1 RCf2
  refine (H2.out _ (HE.out.below hB)).mono ?_
  rintro e w4 ⟨rfl, hb⟩
  replace hB := bstep hB hb
  have RA := Lib.hid (keep hb RA.out)
  have RB := Lib.hid (keep hb RB.out)
  have RC := Lib.hid (keep hb RC.out)
  have RD := Lib.hid (keep hb RD.out)
  clear hb
  go_wp2_with fail
  go_ret
  exact ⟨rfl, bstep hB (A1 rfl).1⟩

set_option maxRecDepth 100000 in
set_option maxHeartbeats 8000000 in
theorem la_through_bad16 (a0 a1 a2 b0 b1 b2 c0 c1 c2 d0 d1 d2 : ByteArray) (w : World) (hE : Env w)
    (hf : ∀ N t W, W.heap[N]? = some (.cells #[.string a0, .string a1, .string a2, .string b0, .string b1, .string b2, .string c0, .string c1, .string c2, .string d0, .string d1, .string d2] t (0, 0)) → Calls Tryz.prog 11 #[.agg #[.string ⟨#[]⟩, .string ⟨#[]⟩, .string ⟨#[]⟩, .string ⟨#[]⟩], .string ⟨#[]⟩, .slice (some ⟨N, 0, none⟩) 4 4] W fun e w' => e = .returned (.bool true) ∧ Below W.heap.size W w')
    (h1 : ∀ w, Env w → Calls Tryz.prog 24 #[.agg #[.string d0, .string d1, .string d2]] w fun e w' => e = .returned (.bool true) ∧ Below w.heap.size w w')
    (h2 : ∀ w, Env w → Calls Tryz.prog 28 #[.agg #[.string a0, .string a1, .string a2], .agg #[.string b0, .string b1, .string b2], .agg #[.string c0, .string c1, .string c2]] w fun e w' => e = .returned (.tuple #[.agg #[.string ⟨#[]⟩, .string ⟨#[]⟩, .string ⟨#[]⟩, .string ⟨#[]⟩], .int .i64 16]) ∧ Below w.heap.size w w') :
    Calls Tryz.prog 7 #[.agg #[.string a0, .string a1, .string a2], .agg #[.string b0, .string b1, .string b2], .agg #[.string c0, .string c1, .string c2], .agg #[.string d0, .string d1, .string d2]] w fun e w' => e = .returned (.bool true) ∧ Below w.heap.size w w' := by
  have HF := Lib.hid hf
  have H1 := Lib.hid h1
  have H2 := Lib.hid h2
  have HE := Lib.hid hE
  clear hE hf h1 h2
  go_enter Tryz.func7, Tryz.ntmps7
  go_wp2_with fail
  generalize hW : (((World.alloc w _).alloc _).alloc _).alloc _ = W
  obtain ⟨hB, hsz, RA, RB, RC, RD⟩ := A4 hW
  have RA := Lib.hid RA
  have RB := Lib.hid RB
  have RC := Lib.hid RC
  have RD := Lib.hid RD
  clear hW hsz
  refine (la_awake _ (HE.out.below hB)).mono ?_
  rintro e w1 ⟨rfl, hb⟩
  replace hB := bstep hB hb
  have RA := Lib.hid (keep hb RA.out)
  have RB := Lib.hid (keep hb RB.out)
  have RC := Lib.hid (keep hb RC.out)
  have RD := Lib.hid (keep hb RD.out)
  clear hb
  obtain ⟨RAc0, RAc1, RAc2, RAf0, RAf1, RAf2⟩ := row3 RA.out
  obtain ⟨RBc0, RBc1, RBc2, RBf0, RBf1, RBf2⟩ := row3 RB.out
  obtain ⟨RCc0, RCc1, RCc2, RCf0, RCf1, RCf2⟩ := row3 RC.out
  obtain ⟨RDc0, RDc1, RDc2, RDf0, RDf1, RDf2⟩ := row3 RD.out
  go_wp2_with fail
  clear RAc0 RAc1 RAc2 RAf0 RAf1 RAf2
  clear RBc0 RBc1 RBc2 RBf0 RBf1 RBf2
  clear RCc0 RCc1 RCc2 RCf0 RCf1 RCf2
  clear RDc0 RDc1 RDc2 RDf0 RDf1 RDf2
  generalize hW : World.alloc _ _ = X
  obtain ⟨hb, hsz, RS⟩ := A1 hW
  replace hB := bstep hB hb
  have RA := Lib.hid (keep hb RA.out)
  have RB := Lib.hid (keep hb RB.out)
  have RC := Lib.hid (keep hb RC.out)
  have RD := Lib.hid (keep hb RD.out)
  clear hb
  have RS := Lib.hid RS
  clear hW hsz
  refine (HF.out _ _ _ RS.out).mono ?_
  rintro e w2 ⟨rfl, hb⟩
  replace hB := bstep hB hb
  have RA := Lib.hid (keep hb RA.out)
  have RB := Lib.hid (keep hb RB.out)
  have RC := Lib.hid (keep hb RC.out)
  have RD := Lib.hid (keep hb RD.out)
  clear hb RS
  obtain ⟨RDc0, RDc1, RDc2, RDf0, RDf1, RDf2⟩ := row3 RD.out
  go_wp2_with fail
  clear RDc0 RDc1 RDc2 RDf0 RDf1 RDf2
  refine (H1.out _ (HE.out.below hB)).mono ?_
  rintro e w3 ⟨rfl, hb⟩
  replace hB := bstep hB hb
  have RA := Lib.hid (keep hb RA.out)
  have RB := Lib.hid (keep hb RB.out)
  have RC := Lib.hid (keep hb RC.out)
  have RD := Lib.hid (keep hb RD.out)
  clear hb
  obtain ⟨RAc0, RAc1, RAc2, RAf0, RAf1, RAf2⟩ := row3 RA.out
  obtain ⟨RBc0, RBc1, RBc2, RBf0, RBf1, RBf2⟩ := row3 RB.out
  obtain ⟨RCc0, RCc1, RCc2, RCf0, RCf1, RCf2⟩ := row3 RC.out
  go_wp2_with fail
  clear RAc0 RAc1 RAc2 RAf0 RAf1 RAf2
  clear RBc0 RBc1 RBc2 RBf0 RBf1 RBf2
  clear RCc0 RCc1 RCc2 RCf0 RCf1 RCf2
  refine (H2.out _ (HE.out.below hB)).mono ?_
  rintro e w4 ⟨rfl, hb⟩
  replace hB := bstep hB hb
  have RA := Lib.hid (keep hb RA.out)
  have RB := Lib.hid (keep hb RB.out)
  have RC := Lib.hid (keep hb RC.out)
  have RD := Lib.hid (keep hb RD.out)
  clear hb
  go_wp2_with fail
  go_ret
  exact ⟨rfl, bstep hB (A1 rfl).1⟩

set_option maxRecDepth 100000 in
set_option maxHeartbeats 8000000 in
theorem la_through_yes (a0 a1 a2 b0 b1 b2 c0 c1 c2 d0 d1 d2 p0 p1 p2 p3 q0 q1 q2 q3 u0 u1 u2 v0 v1 v2 g0 g1 g2 z : ByteArray) (s t : Int) (hst : s = 1 ∧ t = -1 ∨ s = 0 ∧ t = 0 ∨ s = -1 ∧ t = 1) (w : World) (hE : Env w)
    (hf : ∀ N t W, W.heap[N]? = some (.cells #[.string a0, .string a1, .string a2, .string b0, .string b1, .string b2, .string c0, .string c1, .string c2, .string d0, .string d1, .string d2] t (0, 0)) → Calls Tryz.prog 11 #[.agg #[.string ⟨#[]⟩, .string ⟨#[]⟩, .string ⟨#[]⟩, .string ⟨#[]⟩], .string ⟨#[]⟩, .slice (some ⟨N, 0, none⟩) 4 4] W fun e w' => e = .returned (.bool true) ∧ Below W.heap.size W w')
    (h1 : ∀ w, Env w → Calls Tryz.prog 24 #[.agg #[.string d0, .string d1, .string d2]] w fun e w' => e = .returned (.bool true) ∧ Below w.heap.size w w')
    (h2 : ∀ w, Env w → Calls Tryz.prog 28 #[.agg #[.string a0, .string a1, .string a2], .agg #[.string b0, .string b1, .string b2], .agg #[.string c0, .string c1, .string c2]] w fun e w' => e = .returned (.tuple #[.agg #[.string p0, .string p1, .string p2, .string p3], .int .i64 0]) ∧ Below w.heap.size w w')
    (h3 : ∀ w, Env w → Calls Tryz.prog 26 #[.agg #[.string p0, .string p1, .string p2, .string p3], .agg #[.string a0, .string a1, .string a2]] w fun e w' => e = .returned (.tuple #[.int .i64 0, .int .i64 0]) ∧ Below w.heap.size w w')
    (h4 : ∀ w, Env w → Calls Tryz.prog 26 #[.agg #[.string p0, .string p1, .string p2, .string p3], .agg #[.string b0, .string b1, .string b2]] w fun e w' => e = .returned (.tuple #[.int .i64 0, .int .i64 0]) ∧ Below w.heap.size w w')
    (h5 : ∀ w, Env w → Calls Tryz.prog 26 #[.agg #[.string p0, .string p1, .string p2, .string p3], .agg #[.string c0, .string c1, .string c2]] w fun e w' => e = .returned (.tuple #[.int .i64 0, .int .i64 0]) ∧ Below w.heap.size w w')
    (h6 : ∀ w, Env w → Calls Tryz.prog 14 #[.agg #[.string b0, .string b1, .string b2], .agg #[.string a0, .string a1, .string a2]] w fun e w' => e = .returned (.tuple #[.agg #[.string u0, .string u1, .string u2], .int .i64 0]) ∧ Below w.heap.size w w')
    (h7 : ∀ w, Env w → Calls Tryz.prog 14 #[.agg #[.string c0, .string c1, .string c2], .agg #[.string a0, .string a1, .string a2]] w fun e w' => e = .returned (.tuple #[.agg #[.string v0, .string v1, .string v2], .int .i64 0]) ∧ Below w.heap.size w w')
    (h8 : ∀ w, Env w → Calls Tryz.prog 14 #[.agg #[.string d0, .string d1, .string d2], .agg #[.string a0, .string a1, .string a2]] w fun e w' => e = .returned (.tuple #[.agg #[.string g0, .string g1, .string g2], .int .i64 0]) ∧ Below w.heap.size w w')
    (h9 : ∀ w, Env w → Calls Tryz.prog 22 #[.agg #[.string g0, .string g1, .string g2], .agg #[.string u0, .string u1, .string u2], .agg #[.string v0, .string v1, .string v2]] w fun e w' => e = .returned (.tuple #[.string z, .int .i64 0]) ∧ Below w.heap.size w w')
    (h10 : ∀ w, Env w → Calls Tryz.prog 26 #[.agg #[.string p0, .string p1, .string p2, .string p3], .agg #[.string d0, .string d1, .string d2]] w fun e w' => e = .returned (.tuple #[.int .i64 s, .int .i64 0]) ∧ Below w.heap.size w w')
    (h11 : ∀ w, Env w → Calls Tryz.prog 36 #[.string z, .string ⟨#[48]⟩] w fun e w' => e = .returned (.tuple #[.int .i64 s, .int .i64 0]) ∧ Below w.heap.size w w')
    (h12 : ∀ w, Env w → Calls Tryz.prog 28 #[.agg #[.string b0, .string b1, .string b2], .agg #[.string c0, .string c1, .string c2], .agg #[.string a0, .string a1, .string a2]] w fun e w' => e = .returned (.tuple #[.agg #[.string p0, .string p1, .string p2, .string p3], .int .i64 0]) ∧ Below w.heap.size w w')
    (h13 : ∀ w, Env w → Calls Tryz.prog 28 #[.agg #[.string b0, .string b1, .string b2], .agg #[.string a0, .string a1, .string a2], .agg #[.string c0, .string c1, .string c2]] w fun e w' => e = .returned (.tuple #[.agg #[.string q0, .string q1, .string q2, .string q3], .int .i64 0]) ∧ Below w.heap.size w w')
    (h14 : ∀ w, Env w → Calls Tryz.prog 26 #[.agg #[.string q0, .string q1, .string q2, .string q3], .agg #[.string d0, .string d1, .string d2]] w fun e w' => e = .returned (.tuple #[.int .i64 t, .int .i64 0]) ∧ Below w.heap.size w w') :
    Calls Tryz.prog 7 #[.agg #[.string a0, .string a1, .string a2], .agg #[.string b0, .string b1, .string b2], .agg #[.string c0, .string c1, .string c2], .agg #[.string d0, .string d1, .string d2]] w fun e w' => e = .returned (.bool true) ∧ Below w.heap.size w w' := by
  have HF := Lib.hid hf
  have H1 := Lib.hid h1
  have H2 := Lib.hid h2
  have H3 := Lib.hid h3
  have H4 := Lib.hid h4
  have H5 := Lib.hid h5
  have H6 := Lib.hid h6
  have H7 := Lib.hid h7
  have H8 := Lib.hid h8
  have H9 := Lib.hid h9
  have H10 := Lib.hid h10
  have H11 := Lib.hid h11
  have H12 := Lib.hid h12
  have H13 := Lib.hid h13
  have H14 := Lib.hid h14
  have HE := Lib.hid hE
  clear hE hf h1 h2 h3 h4 h5 h6 h7 h8 h9 h10 h11 h12 h13 h14
  go_enter Tryz.func7, Tryz.ntmps7
  go_wp2_with fail
  generalize hW : (((World.alloc w _).alloc _).alloc _).alloc _ = W
  obtain ⟨hB, hsz, RA, RB, RC, RD⟩ := A4 hW
  have RA := Lib.hid RA
  have RB := Lib.hid RB
  have RC := Lib.hid RC
  have RD := Lib.hid RD
  clear hW hsz
  refine (la_awake _ (HE.out.below hB)).mono ?_
  rintro e w1 ⟨rfl, hb⟩
  replace hB := bstep hB hb
  have RA := Lib.hid (keep hb RA.out)
  have RB := Lib.hid (keep hb RB.out)
  have RC := Lib.hid (keep hb RC.out)
  have RD := Lib.hid (keep hb RD.out)
  clear hb
  obtain ⟨RAc0, RAc1, RAc2, RAf0, RAf1, RAf2⟩ := row3 RA.out
  obtain ⟨RBc0, RBc1, RBc2, RBf0, RBf1, RBf2⟩ := row3 RB.out
  obtain ⟨RCc0, RCc1, RCc2, RCf0, RCf1, RCf2⟩ := row3 RC.out
  obtain ⟨RDc0, RDc1, RDc2, RDf0, RDf1, RDf2⟩ := row3 RD.out
  go_wp2_with fail
  clear RAc0 RAc1 RAc2 RAf0 RAf1 RAf2
  clear RBc0 RBc1 RBc2 RBf0 RBf1 RBf2
  clear RCc0 RCc1 RCc2 RCf0 RCf1 RCf2
  clear RDc0 RDc1 RDc2 RDf0 RDf1 RDf2
  generalize hW : World.alloc _ _ = X
  obtain ⟨hb, hsz, RS⟩ := A1 hW
  replace hB := bstep hB hb
  have RA := Lib.hid (keep hb RA.out)
  have RB := Lib.hid (keep hb RB.out)
  have RC := Lib.hid (keep hb RC.out)
  have RD := Lib.hid (keep hb RD.out)
  clear hb
  have RS := Lib.hid RS
  clear hW hsz
  refine (HF.out _ _ _ RS.out).mono ?_
  rintro e w2 ⟨rfl, hb⟩
  replace hB := bstep hB hb
  have RA := Lib.hid (keep hb RA.out)
  have RB := Lib.hid (keep hb RB.out)
  have RC := Lib.hid (keep hb RC.out)
  have RD := Lib.hid (keep hb RD.out)
  clear hb RS
  obtain ⟨RDc0, RDc1, RDc2, RDf0, RDf1, RDf2⟩ := row3 RD.out
  go_wp2_with fail
  clear RDc0 RDc1 RDc2 RDf0 RDf1 RDf2
  refine (H1.out _ (HE.out.below hB)).mono ?_
  rintro e w3 ⟨rfl, hb⟩
  replace hB := bstep hB hb
  have RA := Lib.hid (keep hb RA.out)
  have RB := Lib.hid (keep hb RB.out)
  have RC := Lib.hid (keep hb RC.out)
  have RD := Lib.hid (keep hb RD.out)
  clear hb
  obtain ⟨RAc0, RAc1, RAc2, RAf0, RAf1, RAf2⟩ := row3 RA.out
  obtain ⟨RBc0, RBc1, RBc2, RBf0, RBf1, RBf2⟩ := row3 RB.out
  obtain ⟨RCc0, RCc1, RCc2, RCf0, RCf1, RCf2⟩ := row3 RC.out
  go_wp2_with fail
  clear RAc0 RAc1 RAc2 RAf0 RAf1 RAf2
  clear RBc0 RBc1 RBc2 RBf0 RBf1 RBf2
  clear RCc0 RCc1 RCc2 RCf0 RCf1 RCf2
  refine (H2.out _ (HE.out.below hB)).mono ?_
  rintro e w4 ⟨rfl, hb⟩
  replace hB := bstep hB hb
  have RA := Lib.hid (keep hb RA.out)
  have RB := Lib.hid (keep hb RB.out)
  have RC := Lib.hid (keep hb RC.out)
  have RD := Lib.hid (keep hb RD.out)
  clear hb
  obtain ⟨RAc0, RAc1, RAc2, RAf0, RAf1, RAf2⟩ := row3 RA.out
  obtain ⟨RBc0, RBc1, RBc2, RBf0, RBf1, RBf2⟩ := row3 RB.out
  obtain ⟨RCc0, RCc1, RCc2, RCf0, RCf1, RCf2⟩ := row3 RC.out
  have qRA := lp2 RA.out
  have qRB := lp2 RB.out
  have qRC := lp2 RC.out
  go_wp2_with fail
  clear RAc0 RAc1 RAc2 RAf0 RAf1 RAf2
  clear RBc0 RBc1 RBc2 RBf0 RBf1 RBf2
  clear RCc0 RCc1 RCc2 RCf0 RCf1 RCf2
  clear qRA qRB qRC
  generalize hW : (World.alloc _ _).alloc _ = V
  obtain ⟨hb, hsz, RP, RT⟩ := A2 hW
  replace hB := bstep hB hb
  have RA := Lib.hid (keep hb RA.out)
  have RB := Lib.hid (keep hb RB.out)
  have RC := Lib.hid (keep hb RC.out)
  have RD := Lib.hid (keep hb RD.out)
  clear hb
  have RP := Lib.hid RP
  have RT := Lib.hid RT
  clear hW hsz
  go_loopw [68] (fun x wr => ∃ k : Int, x = .int .i64 k ∧ Below V.heap.size V wr ∧ (k = 0 ∨ k = 1 ∨ k = 2 ∨ k = 3)) (fun x _ => (3 - intOf x).toNat)
  case atStart => exact ⟨0, rfl, Below.refl _ V, Or.inl rfl⟩
  case round =>
    obtain ⟨k, rfl, hV, hk⟩ := hrel
    replace hB := bstep hB hV
    have RA := Lib.hid (keep hV RA.out)
    have RB := Lib.hid (keep hV RB.out)
    have RC := Lib.hid (keep hV RC.out)
    have RD := Lib.hid (keep hV RD.out)
    have RP := Lib.hid (keep hV RP.out)
    have RT := Lib.hid (keep hV RT.out)
    rcases hk with rfl | rfl | rfl | rfl
    · have t0 := cell_of_row _ _ 0 _ _ _ RT.out
      have t1 := cell_of_row _ _ 1 _ _ _ RT.out
      have t2 := cell_of_row _ _ 2 _ _ _ RT.out
      clear H1 H2 H6 H7 H8 H9 H10 H11 H12 H13 H14
      obtain ⟨RPc0, RPc1, RPc2, RPc3, RPf0, RPf1, RPf2, RPf3⟩ := row4 RP.out
      have qRP := lp2 RP.out
      have qRT := lp2 RT.out
      go_wp2_with fail
      clear RPc0 RPc1 RPc2 RPc3 RPf0 RPf1 RPf2 RPf3
      clear qRP qRT
      clear t0 t1 t2
      generalize hW : World.alloc _ _ = V1
      obtain ⟨hb, hsz, RX⟩ := A1 hW
      replace hB := bstep hB hb
      replace hV := bstep hV hb
      clear hW hsz hb RX
      refine (H3.out _ (HE.out.below hB)).mono ?_
      rintro e w4 ⟨rfl, hb⟩
      replace hV := bstep hV hb
      clear hb
      go_wp2_with fail
      go_roundw
      case rel => exact ⟨1, rfl, hV, by simp⟩
      case measure => decide
    · have t0 := cell_of_row _ _ 3 _ _ _ RT.out
      have t1 := cell_of_row _ _ 4 _ _ _ RT.out
      have t2 := cell_of_row _ _ 5 _ _ _ RT.out
      clear H1 H2 H6 H7 H8 H9 H10 H11 H12 H13 H14
      obtain ⟨RPc0, RPc1, RPc2, RPc3, RPf0, RPf1, RPf2, RPf3⟩ := row4 RP.out
      have qRP := lp2 RP.out
      have qRT := lp2 RT.out
      go_wp2_with fail
      clear RPc0 RPc1 RPc2 RPc3 RPf0 RPf1 RPf2 RPf3
      clear qRP qRT
      clear t0 t1 t2
      generalize hW : World.alloc _ _ = V1
      obtain ⟨hb, hsz, RX⟩ := A1 hW
      replace hB := bstep hB hb
      replace hV := bstep hV hb
      clear hW hsz hb RX
      refine (H4.out _ (HE.out.below hB)).mono ?_
      rintro e w4 ⟨rfl, hb⟩
      replace hV := bstep hV hb
      clear hb
      go_wp2_with fail
      go_roundw
      case rel => exact ⟨2, rfl, hV, by simp⟩
      case measure => decide
    · have t0 := cell_of_row _ _ 6 _ _ _ RT.out
      have t1 := cell_of_row _ _ 7 _ _ _ RT.out
      have t2 := cell_of_row _ _ 8 _ _ _ RT.out
      clear H1 H2 H6 H7 H8 H9 H10 H11 H12 H13 H14
      obtain ⟨RPc0, RPc1, RPc2, RPc3, RPf0, RPf1, RPf2, RPf3⟩ := row4 RP.out
      have qRP := lp2 RP.out
      have qRT := lp2 RT.out
      go_wp2_with fail
      clear RPc0 RPc1 RPc2 RPc3 RPf0 RPf1 RPf2 RPf3
      clear qRP qRT
      clear t0 t1 t2
      generalize hW : World.alloc _ _ = V1
      obtain ⟨hb, hsz, RX⟩ := A1 hW
      replace hB := bstep hB hb
      replace hV := bstep hV hb
      clear hW hsz hb RX
      refine (H5.out _ (HE.out.below hB)).mono ?_
      rintro e w4 ⟨rfl, hb⟩
      replace hV := bstep hV hb
      clear hb
      go_wp2_with fail
      go_roundw
      case rel => exact ⟨3, rfl, hV, by simp⟩
      case measure => decide
    · clear RT hV H1 H2 H3 H4 H5
      obtain ⟨RBc0, RBc1, RBc2, RBf0, RBf1, RBf2⟩ := row3 RB.out
      obtain ⟨RAc0, RAc1, RAc2, RAf0, RAf1, RAf2⟩ := row3 RA.out
      go_wp2_with fail
      clear RBc0 RBc1 RBc2 RBf0 RBf1 RBf2
      clear RAc0 RAc1 RAc2 RAf0 RAf1 RAf2
      refine (H6.out _ (HE.out.below hB)).mono ?_
      rintro e w5 ⟨rfl, hb⟩
      replace hB := bstep hB hb
      have RA := Lib.hid (keep hb RA.out)
      have RB := Lib.hid (keep hb RB.out)
      have RC := Lib.hid (keep hb RC.out)
      have RD := Lib.hid (keep hb RD.out)
      have RP := Lib.hid (keep hb RP.out)
      clear hb
      obtain ⟨RCc0, RCc1, RCc2, RCf0, RCf1, RCf2⟩ := row3 RC.out
      obtain ⟨RAc0, RAc1, RAc2, RAf0, RAf1, RAf2⟩ := row3 RA.out
      have qRC := lp2 RC.out
      have qRA := lp2 RA.out
      go_wp2_with fail
      clear RCc0 RCc1 RCc2 RCf0 RCf1 RCf2
      clear RAc0 RAc1 RAc2 RAf0 RAf1 RAf2
      clear qRC qRA
      generalize hW : World.alloc _ _ = V5
      obtain ⟨hb, hsz, RU⟩ := A1 hW
      replace hB := bstep hB hb
      have RA := Lib.hid (keep hb RA.out)
      have RB := Lib.hid (keep hb RB.out)
      have RC := Lib.hid (keep hb RC.out)
      have RD := Lib.hid (keep hb RD.out)
      have RP := Lib.hid (keep hb RP.out)
      clear hb
      have RU := Lib.hid RU
      clear hW hsz
      refine (H7.out _ (HE.out.below hB)).mono ?_
      rintro e w6 ⟨rfl, hb⟩
      replace hB := bstep hB hb
      have RA := Lib.hid (keep hb RA.out)
      have RB := Lib.hid (keep hb RB.out)
      have RC := Lib.hid (keep hb RC.out)
      have RD := Lib.hid (keep hb RD.out)
      have RP := Lib.hid (keep hb RP.out)
      have RU := Lib.hid (keep hb RU.out)
      clear hb
      obtain ⟨RDc0, RDc1, RDc2, RDf0, RDf1, RDf2⟩ := row3 RD.out
      obtain ⟨RAc0, RAc1, RAc2, RAf0, RAf1, RAf2⟩ := row3 RA.out
      have qRD := lp2 RD.out
      have qRA := lp2 RA.out
      go_wp2_with fail
      clear RDc0 RDc1 RDc2 RDf0 RDf1 RDf2
      clear RAc0 RAc1 RAc2 RAf0 RAf1 RAf2
      clear qRD qRA
      generalize hW : World.alloc _ _ = V6
      obtain ⟨hb, hsz, RV⟩ := A1 hW
      replace hB := bstep hB hb
      have RA := Lib.hid (keep hb RA.out)
      have RB := Lib.hid (keep hb RB.out)
      have RC := Lib.hid (keep hb RC.out)
      have RD := Lib.hid (keep hb RD.out)
      have RP := Lib.hid (keep hb RP.out)
      have RU := Lib.hid (keep hb RU.out)
      clear hb
      have RV := Lib.hid RV
      clear hW hsz
      refine (H8.out _ (HE.out.below hB)).mono ?_
      rintro e w7 ⟨rfl, hb⟩
      replace hB := bstep hB hb
      have RA := Lib.hid (keep hb RA.out)
      have RB := Lib.hid (keep hb RB.out)
      have RC := Lib.hid (keep hb RC.out)
      have RD := Lib.hid (keep hb RD.out)
      have RP := Lib.hid (keep hb RP.out)
      have RU := Lib.hid (keep hb RU.out)
      have RV := Lib.hid (keep hb RV.out)
      clear hb
      obtain ⟨RUc0, RUc1, RUc2, RUf0, RUf1, RUf2⟩ := row3 RU.out
      obtain ⟨RVc0, RVc1, RVc2, RVf0, RVf1, RVf2⟩ := row3 RV.out
      have qRU := lp2 RU.out
      have qRV := lp2 RV.out
      go_wp2_with fail
      clear RUc0 RUc1 RUc2 RUf0 RUf1 RUf2
      clear RVc0 RVc1 RVc2 RVf0 RVf1 RVf2
      clear qRU qRV
      generalize hW : World.alloc _ _ = V7
      obtain ⟨hb, hsz, RG⟩ := A1 hW
      replace hB := bstep hB hb
      have RA := Lib.hid (keep hb RA.out)
      have RB := Lib.hid (keep hb RB.out)
      have RC := Lib.hid (keep hb RC.out)
      have RD := Lib.hid (keep hb RD.out)
      have RP := Lib.hid (keep hb RP.out)
      have RU := Lib.hid (keep hb RU.out)
      have RV := Lib.hid (keep hb RV.out)
      clear hb
      have RG := Lib.hid RG
      clear hW hsz
      refine (H9.out _ (HE.out.below hB)).mono ?_
      rintro e w8 ⟨rfl, hb⟩
      replace hB := bstep hB hb
      have RA := Lib.hid (keep hb RA.out)
      have RB := Lib.hid (keep hb RB.out)
      have RC := Lib.hid (keep hb RC.out)
      have RD := Lib.hid (keep hb RD.out)
      have RP := Lib.hid (keep hb RP.out)
      have RU := Lib.hid (keep hb RU.out)
      have RV := Lib.hid (keep hb RV.out)
      have RG := Lib.hid (keep hb RG.out)
      clear hb
      obtain ⟨RPc0, RPc1, RPc2, RPc3, RPf0, RPf1, RPf2, RPf3⟩ := row4 RP.out
      obtain ⟨RDc0, RDc1, RDc2, RDf0, RDf1, RDf2⟩ := row3 RD.out
      go_wp2_with fail
      clear RPc0 RPc1 RPc2 RPc3 RPf0 RPf1 RPf2 RPf3
      clear RDc0 RDc1 RDc2 RDf0 RDf1 RDf2
      refine (H10.out _ (HE.out.below hB)).mono ?_
      rintro e w9 ⟨rfl, hb⟩
      replace hB := bstep hB hb
      have RA := Lib.hid (keep hb RA.out)
      have RB := Lib.hid (keep hb RB.out)
      have RC := Lib.hid (keep hb RC.out)
      have RD := Lib.hid (keep hb RD.out)
      have RP := Lib.hid (keep hb RP.out)
      have RU := Lib.hid (keep hb RU.out)
      have RV := Lib.hid (keep hb RV.out)
      have RG := Lib.hid (keep hb RG.out)
      clear hb
      go_wp2_with fail
      refine (H11.out _ (HE.out.below hB)).mono ?_
      rintro e w10 ⟨rfl, hb⟩
      replace hB := bstep hB hb
      have RA := Lib.hid (keep hb RA.out)
      have RB := Lib.hid (keep hb RB.out)
      have RC := Lib.hid (keep hb RC.out)
      have RD := Lib.hid (keep hb RD.out)
      have RP := Lib.hid (keep hb RP.out)
      have RU := Lib.hid (keep hb RU.out)
      have RV := Lib.hid (keep hb RV.out)
      have RG := Lib.hid (keep hb RG.out)
      clear hb
      obtain ⟨RBc0, RBc1, RBc2, RBf0, RBf1, RBf2⟩ := row3 RB.out
      obtain ⟨RCc0, RCc1, RCc2, RCf0, RCf1, RCf2⟩ := row3 RC.out
      obtain ⟨RAc0, RAc1, RAc2, RAf0, RAf1, RAf2⟩ := row3 RA.out
      go_wp2_with fail
      clear RBc0 RBc1 RBc2 RBf0 RBf1 RBf2
      clear RCc0 RCc1 RCc2 RCf0 RCf1 RCf2
      clear RAc0 RAc1 RAc2 RAf0 RAf1 RAf2
      refine (H12.out _ (HE.out.below hB)).mono ?_
      rintro e w11 ⟨rfl, hb⟩
      replace hB := bstep hB hb
      have RA := Lib.hid (keep hb RA.out)
      have RB := Lib.hid (keep hb RB.out)
      have RC := Lib.hid (keep hb RC.out)
      have RD := Lib.hid (keep hb RD.out)
      have RP := Lib.hid (keep hb RP.out)
      have RU := Lib.hid (keep hb RU.out)
      have RV := Lib.hid (keep hb RV.out)
      have RG := Lib.hid (keep hb RG.out)
      clear hb
      obtain ⟨RBc0, RBc1, RBc2, RBf0, RBf1, RBf2⟩ := row3 RB.out
      obtain ⟨RAc0, RAc1, RAc2, RAf0, RAf1, RAf2⟩ := row3 RA.out
      obtain ⟨RCc0, RCc1, RCc2, RCf0, RCf1, RCf2⟩ := row3 RC.out
      have qRB := lp2 RB.out
      have qRA := lp2 RA.out
      have qRC := lp2 RC.out
      go_wp2_with fail
      clear RBc0 RBc1 RBc2 RBf0 RBf1 RBf2
      clear RAc0 RAc1 RAc2 RAf0 RAf1 RAf2
      clear RCc0 RCc1 RCc2 RCf0 RCf1 RCf2
      clear qRB qRA qRC
      generalize hW : World.alloc _ _ = V11
      obtain ⟨hb, hsz, RQ⟩ := A1 hW
      replace hB := bstep hB hb
      have RA := Lib.hid (keep hb RA.out)
      have RB := Lib.hid (keep hb RB.out)
      have RC := Lib.hid (keep hb RC.out)
      have RD := Lib.hid (keep hb RD.out)
      have RP := Lib.hid (keep hb RP.out)
      have RU := Lib.hid (keep hb RU.out)
      have RV := Lib.hid (keep hb RV.out)
      have RG := Lib.hid (keep hb RG.out)
      clear hb
      have RQ := Lib.hid RQ
      clear hW hsz
      refine (H13.out _ (HE.out.below hB)).mono ?_
      rintro e w12 ⟨rfl, hb⟩
      replace hB := bstep hB hb
      have RA := Lib.hid (keep hb RA.out)
      have RB := Lib.hid (keep hb RB.out)
      have RC := Lib.hid (keep hb RC.out)
      have RD := Lib.hid (keep hb RD.out)
      have RP := Lib.hid (keep hb RP.out)
      have RU := Lib.hid (keep hb RU.out)
      have RV := Lib.hid (keep hb RV.out)
      have RG := Lib.hid (keep hb RG.out)
      have RQ := Lib.hid (keep hb RQ.out)
      clear hb
      obtain ⟨RDc0, RDc1, RDc2, RDf0, RDf1, RDf2⟩ := row3 RD.out
      have qRD := lp2 RD.out
      go_wp2_with fail
      clear RDc0 RDc1 RDc2 RDf0 RDf1 RDf2
      clear qRD
      generalize hW : World.alloc _ _ = V12
      obtain ⟨hb, hsz, RR⟩ := A1 hW
      replace hB := bstep hB hb
      have RA := Lib.hid (keep hb RA.out)
      have RB := Lib.hid (keep hb RB.out)
      have RC := Lib.hid (keep hb RC.out)
      have RD := Lib.hid (keep hb RD.out)
      have RP := Lib.hid (keep hb RP.out)
      have RU := Lib.hid (keep hb RU.out)
      have RV := Lib.hid (keep hb RV.out)
      have RG := Lib.hid (keep hb RG.out)
      have RQ := Lib.hid (keep hb RQ.out)
      clear hb
      have RR := Lib.hid RR
      clear hW hsz
      refine (H14.out _ (HE.out.below hB)).mono ?_
      rintro e w13 ⟨rfl, hb⟩
      replace hB := bstep hB hb
      have RA := Lib.hid (keep hb RA.out)
      have RB := Lib.hid (keep hb RB.out)
      have RC := Lib.hid (keep hb RC.out)
      have RD := Lib.hid (keep hb RD.out)
      have RP := Lib.hid (keep hb RP.out)
      have RU := Lib.hid (keep hb RU.out)
      have RV := Lib.hid (keep hb RV.out)
      have RG := Lib.hid (keep hb RG.out)
      have RQ := Lib.hid (keep hb RQ.out)
      have RR := Lib.hid (keep hb RR.out)
      clear hb
      obtain ⟨RQc0, RQc1, RQc2, RQc3, RQf0, RQf1, RQf2, RQf3⟩ := row4 RQ.out
      obtain ⟨RPc0, RPc1, RPc2, RPc3, RPf0, RPf1, RPf2, RPf3⟩ := row4 RP.out
      rcases hst with ⟨rfl, rfl⟩ | ⟨rfl, rfl⟩ | ⟨rfl, rfl⟩
      all_goals
        go_wp2_with fail
        go_ret
        exact ⟨rfl, hB⟩
end Go.Proofs.YtmdgfjkaamjgcaaGreatDoor

/- The law VectorThrough answers true at whatever strings. -/
namespace Go.Proofs.YtmdgfjkaamjgcaaGreatDoor
open Go.RowKit Go.Shelf Go.Sort

theorem vecsAt4 {W : World} {N : Nat} {t : TypeId} {a0 a1 a2 b0 b1 b2 c0 c1 c2 d0 d1 d2 : ByteArray} (h : W.heap[N]? = some (.cells #[.string a0, .string a1, .string a2, .string b0, .string b1, .string b2, .string c0, .string c1, .string c2, .string d0, .string d1, .string d2] t (0, 0))) :
    VecsAt W N 0 4 (fun i => if i = 0 then (a0, a1, a2) else if i = 1 then (b0, b1, b2) else if i = 2 then (c0, c1, c2) else (d0, d1, d2)) := by
  intro i hi
  match i, hi with
  | 0, _ => exact ⟨cell_of_row W _ 0 _ _ _ h, cell_of_row W _ 1 _ _ _ h, cell_of_row W _ 2 _ _ _ h⟩
  | 1, _ => exact ⟨cell_of_row W _ 3 _ _ _ h, cell_of_row W _ 4 _ _ _ h, cell_of_row W _ 5 _ _ _ h⟩
  | 2, _ => exact ⟨cell_of_row W _ 6 _ _ _ h, cell_of_row W _ 7 _ _ _ h, cell_of_row W _ 8 _ _ _ h⟩
  | 3, _ => exact ⟨cell_of_row W _ 9 _ _ _ h, cell_of_row W _ 10 _ _ _ h, cell_of_row W _ 11 _ _ _ h⟩

theorem few_four {a0 a1 a2 b0 b1 b2 c0 c1 c2 d0 d1 d2 : ByteArray} (ha : Mx (a0, a1, a2)) (hb : Mx (b0, b1, b2)) (hc : Mx (c0, c1, c2)) (hd : Mx (d0, d1, d2))
    (f : Bool) (h0 : Sh20 (a0, a1, a2) → Sh20 (b0, b1, b2) → Sh20 (c0, c1, c2) → Sh20 (d0, d1, d2) → f = true) (h1 : ¬ (Sh20 (a0, a1, a2) ∧ Sh20 (b0, b1, b2) ∧ Sh20 (c0, c1, c2) ∧ Sh20 (d0, d1, d2)) → f = false) (N : Nat) (t : TypeId) (W : World)
    (h : W.heap[N]? = some (.cells #[.string a0, .string a1, .string a2, .string b0, .string b1, .string b2, .string c0, .string c1, .string c2, .string d0, .string d1, .string d2] t (0, 0))) :
    Calls Tryz.prog 11 #[.agg #[.string ⟨#[]⟩, .string ⟨#[]⟩, .string ⟨#[]⟩, .string ⟨#[]⟩], .string ⟨#[]⟩, .slice (some ⟨N, 0, none⟩) 4 4] W fun e w' => e = .returned (.bool f) ∧ Below W.heap.size W w' := by
  have hfew := la_few ⟨#[]⟩ ⟨#[]⟩ ⟨#[]⟩ ⟨#[]⟩ ⟨#[]⟩ (.slice (some ⟨N, 0, none⟩) 4 4) true f W mkE mkE
    (fun N' W' h' => la_Few1 ⟨mkE, mkE, mkE⟩ true (fun _ => rfl) (fun hn => absurd ⟨by decide, by decide, by decide⟩ hn) N' W' h')
    (fun W' hB => by
      refine la_Few N 0 4 4 _ f W' (by decide) (vecsAt4 (keep hB h)) ?_ (fun hv => h0 (hv 0 (by decide)) (hv 1 (by decide)) (hv 2 (by decide)) (hv 3 (by decide))) ?_
      · intro i hi
        match i, hi with
        | 0, _ => exact ha
        | 1, _ => exact hb
        | 2, _ => exact hc
        | 3, _ => exact hd
      · rintro ⟨i, hi, hv⟩
        refine h1 (fun ⟨k1, k2, k3, k4⟩ => hv ?_)
        match i, hi with
        | 0, _ => exact k1
        | 1, _ => exact k2
        | 2, _ => exact k3
        | 3, _ => exact k4)
  have e : fewR ⟨#[]⟩ ⟨#[]⟩ true f = f := by unfold fewR; cases f <;> rfl
  rwa [e] at hfew

theorem cmp0 (x : Rat) : cmpQ x 0 = if x.num < 0 then -1 else if x.num = 0 then 0 else 1 := by
  unfold cmpQ cmpI
  rw [show (0 : Rat).num = 0 from rfl, show (0 : Rat).den = 1 from rfl]
  simp only [Int.zero_mul, Int.natCast_one, Int.mul_one]
  repeat' split
  all_goals omega
theorem cmp_three (x y : Rat) (h : y = -x) : cmpQ x 0 = 1 ∧ cmpQ y 0 = -1 ∨ cmpQ x 0 = 0 ∧ cmpQ y 0 = 0 ∨ cmpQ x 0 = -1 ∧ cmpQ y 0 = 1 := by
  have hn : y.num = -x.num := by rw [h]; rfl
  rw [cmp0, cmp0, hn]
  rcases Int.lt_trichotomy x.num 0 with k | k | k
  · rw [if_pos k, if_neg (by omega), if_neg (by omega)]; exact Or.inr (Or.inr ⟨rfl, rfl⟩)
  · rw [if_neg (by omega), if_pos k, if_neg (by omega), if_pos (by omega)]; exact Or.inr (Or.inl ⟨rfl, rfl⟩)
  · rw [if_neg (by omega), if_neg (by omega), if_pos (by omega)]; exact Or.inl ⟨rfl, rfl⟩

theorem m_side1 (a b c : V3) : hgt (nrm a b c) (dotV (nrm a b c) a) a = 0 := by simp only [hgt]; grind
theorem m_side2 (a b c : V3) : hgt (nrm a b c) (dotV (nrm a b c) a) b = 0 := by simp only [hgt, nrm, dotV, crossV, subV]; grind
theorem m_side3 (a b c : V3) : hgt (nrm a b c) (dotV (nrm a b c) a) c = 0 := by simp only [hgt, nrm, dotV, crossV, subV]; grind
theorem m_dett (a b c d : V3) : detV (subV d a) (subV b a) (subV c a) = hgt (nrm a b c) (dotV (nrm a b c) a) d := by simp only [detV, hgt, nrm, dotV, crossV, subV]; grind
theorem m_nrm1 (a b c : V3) : nrm b c a = nrm a b c := by simp only [nrm, crossV, subV, V3.mk.injEq]; exact ⟨by grind, by grind, by grind⟩
theorem m_nrm1c (a b c : V3) : dotV (nrm a b c) b = dotV (nrm a b c) a := by simp only [nrm, dotV, crossV, subV]; grind
theorem m_nrm2 (a b c : V3) : nrm b a c = ⟨-(nrm a b c).x, -(nrm a b c).y, -(nrm a b c).z⟩ := by simp only [nrm, crossV, subV, V3.mk.injEq]; exact ⟨by grind, by grind, by grind⟩
theorem m_turn (a b c d : V3) : hgt (nrm b a c) (dotV (nrm b a c) b) d = -hgt (nrm a b c) (dotV (nrm a b c) a) d := by simp only [hgt, nrm, dotV, crossV, subV]; grind
theorem neg_zero_iff (x : Rat) : (-x = 0) ↔ (x = 0) := ⟨fun h => by grind, fun h => by grind⟩
theorem m_zero (a b c : V3) : zero3 (nrm b a c) = zero3 (nrm a b c) := by
  rw [m_nrm2]; unfold zero3; simp only [neg_zero_iff]

theorem cmp_zero {x : Rat} (h : x = 0) : cmpQ x 0 = 0 := by rw [h, cmpQ_self]

theorem la_through_rs (a b c d : V3) (w : World) (hE : Env w) (ha : SzV 21 a) (hb : SzV 21 b) (hc : SzV 21 c) (hd : SzV 21 d) (h0 : zero3 (nrm a b c) = false)
    (sa : Sh20 (rs a.x, rs a.y, rs a.z)) (sb : Sh20 (rs b.x, rs b.y, rs b.z)) (sc : Sh20 (rs c.x, rs c.y, rs c.z)) (sd : Sh20 (rs d.x, rs d.y, rs d.z)) :
    Calls Tryz.prog 7 #[vV a, vV b, vV c, vV d] w fun e w' => e = .returned (.bool true) ∧ Below w.heap.size w w' := by
  have hn := szV_nrm ha hb hc
  have hm := szV_nrm hb ha hc
  have hu := szV_sub hb ha
  have hv := szV_sub hc ha
  have hg := szV_sub hd ha
  have kn := sz_dot hn (ha.mono (by decide))
  have km := sz_dot hm (hb.mono (by decide))
  have up : ∀ {k : Nat} {v : V3}, SzV k v → k ≤ 50000 → SzV 500000 v := fun h k => h.mono (Nat.le_trans k (by decide))
  have ud : ∀ {k : Nat} {v : V3}, SzV k v → k ≤ 50000 → SzV 50000 v := fun h k => h.mono k
  refine la_through_yes _ _ _ _ _ _ _ _ _ _ _ _ (rs (nrm a b c).x) (rs (nrm a b c).y) (rs (nrm a b c).z) (rs (dotV (nrm a b c) a)) (rs (nrm b a c).x) (rs (nrm b a c).y) (rs (nrm b a c).z) (rs (dotV (nrm b a c) b))
    (rs (subV b a).x) (rs (subV b a).y) (rs (subV b a).z) (rs (subV c a).x) (rs (subV c a).y) (rs (subV c a).z) (rs (subV d a).x) (rs (subV d a).y) (rs (subV d a).z)
    (rs (detV (subV d a) (subV b a) (subV c a))) (cmpQ (hgt (nrm a b c) (dotV (nrm a b c) a) d) 0) (cmpQ (hgt (nrm b a c) (dotV (nrm b a c) b) d) 0) (cmp_three _ _ (m_turn a b c d)) w hE
    (fun N t W h => few_four (sh_mx sa) (sh_mx sb) (sh_mx sc) (sh_mx sd) true (fun _ _ _ _ => rfl) (fun hn => absurd ⟨sa, sb, sc, sd⟩ hn) N t W h)
    (valid_rs d hd) (fun w hE => ve_Through a b c w hE (ha.mono (by decide)) (hb.mono (by decide)) (hc.mono (by decide)) h0) ?_ ?_ ?_
    (fun w hE => ve_Sub b a w hE (up hb (by decide)) (up ha (by decide))) (fun w hE => ve_Sub c a w hE (up hc (by decide)) (up ha (by decide))) (fun w hE => ve_Sub d a w hE (up hd (by decide)) (up ha (by decide)))
    (fun w hE => ve_Det _ _ _ w hE (ud hg (by decide)) (ud hu (by decide)) (ud hv (by decide)))
    (fun w hE => ve_Side (nrm a b c) _ d w hE (ud hn (by decide)) (kn.mono (by decide)) (ud hd (by decide)) h0) ?_ ?_
    (fun w hE => ve_Through b a c w hE (hb.mono (by decide)) (ha.mono (by decide)) (hc.mono (by decide)) ((m_zero a b c).trans h0))
    (fun w hE => ve_Side (nrm b a c) _ d w hE (ud hm (by decide)) (km.mono (by decide)) (ud hd (by decide)) ((m_zero a b c).trans h0))
  · intro w hE
    have h := ve_Side (nrm a b c) (dotV (nrm a b c) a) a w hE (ud hn (by decide)) (kn.mono (by decide)) (ud ha (by decide)) h0
    rwa [cmp_zero (m_side1 a b c)] at h
  · intro w hE
    have h := ve_Side (nrm a b c) (dotV (nrm a b c) a) b w hE (ud hn (by decide)) (kn.mono (by decide)) (ud hb (by decide)) h0
    rwa [cmp_zero (m_side2 a b c)] at h
  · intro w hE
    have h := ve_Side (nrm a b c) (dotV (nrm a b c) a) c w hE (ud hn (by decide)) (kn.mono (by decide)) (ud hc (by decide)) h0
    rwa [cmp_zero (m_side3 a b c)] at h
  · intro w hE
    have h := ra_Compare (detV (subV d a) (subV b a) (subV c a)) 0 w hE ((sz_det hg hu hv).mono (by decide)) ((sz_small (by decide) rfl : Sz 2 (0 : Rat)).mono (by decide))
    rw [rs_0] at h
    rw [← m_dett]
    exact h
  · intro w hE
    have h := ve_Through b c a w hE (hb.mono (by decide)) (hc.mono (by decide)) (ha.mono (by decide)) (by rw [m_nrm1]; exact h0)
    rw [m_nrm1, m_nrm1c] at h
    exact h

theorem la_through (a0 a1 a2 b0 b1 b2 c0 c1 c2 d0 d1 d2 : ByteArray) (w : World) (hE : Env w) (ha : Mx (a0, a1, a2)) (hb : Mx (b0, b1, b2)) (hc : Mx (c0, c1, c2)) (hd : Mx (d0, d1, d2)) :
    Calls Tryz.prog 7 #[.agg #[.string a0, .string a1, .string a2], .agg #[.string b0, .string b1, .string b2], .agg #[.string c0, .string c1, .string c2], .agg #[.string d0, .string d1, .string d2]] w fun e w' => e = .returned (.bool true) ∧ Below w.heap.size w w' := by
  by_cases hs : Sh20 (a0, a1, a2) ∧ Sh20 (b0, b1, b2) ∧ Sh20 (c0, c1, c2) ∧ Sh20 (d0, d1, d2)
  · have hF := fun N t W h => few_four ha hb hc hd true (fun _ _ _ _ => rfl) (fun hn => absurd hs hn) N t W h
    obtain ⟨sa, sb, sc, sd⟩ := hs
    have fw : ∀ {s : ByteArray}, s.size ≤ 20 → s.size ≤ 10000000 := fun h => Nat.le_trans h (by decide)
    have fv : ∀ {s : ByteArray × ByteArray × ByteArray}, Sh20 s → ShV s := fun h => ⟨fw h.1, fw h.2.1, fw h.2.2⟩
    have V1 := fun w hE => ve_Valid d0 d1 d2 w hE (fw sd.1) (fw sd.2.1) (fw sd.2.2)
    cases vd : (rvB d0 && rvB d1 && rvB d2) <;> rw [vd] at V1
    · exact la_through_no1 a0 a1 a2 b0 b1 b2 c0 c1 c2 d0 d1 d2 w hE hF V1
    by_cases hv : vvB (a0, a1, a2) = true ∧ vvB (b0, b1, b2) = true ∧ vvB (c0, c1, c2) = true
    · obtain ⟨a, e0, e1, e2, za⟩ := vec_of_text sa hv.1
      obtain ⟨b, f0, f1, f2, zb⟩ := vec_of_text sb hv.2.1
      obtain ⟨c, g0, g1, g2, zc⟩ := vec_of_text sc hv.2.2
      obtain ⟨d, i0, i1, i2, zd⟩ := vec_of_text sd vd
      subst e0 e1 e2 f0 f1 f2 g0 g1 g2 i0 i1 i2
      cases h0 : zero3 (nrm a b c)
      · exact la_through_rs a b c d w hE za zb zc zd h0 sa sb sc sd
      · have hn := szV_nrm za zb zc
        refine la_through_bad16 _ _ _ _ _ _ _ _ _ _ _ _ w hE hF V1 (fun w hE => ?_)
        refine ve_Through_flat _ _ _ _ _ _ _ _ _ (rs (subV b a).x) (rs (subV b a).y) (rs (subV b a).z) (rs (subV c a).x) (rs (subV c a).y) (rs (subV c a).z) _ _ _ _ w hE (fv sa) (fv sb) (fv sc) (chk3_rs a b c)
          (fun w hE => zip_sub b a w hE (zb.mono (by decide)) (za.mono (by decide))) (fun w hE => zip_sub c a w hE (zc.mono (by decide)) (za.mono (by decide)))
          (fun w hE => ve_cross (subV b a) (subV c a) w hE ((szV_sub zb za).mono (by decide)) ((szV_sub zc za).mono (by decide)))
          (fun w hE => ve_dot (nrm a b c) a w hE (hn.mono (by decide)) (za.mono (by decide))) ?_
        intro w hE
        have h := ve_plane_rs (nrm a b c) (dotV (nrm a b c) a) w hE (hn.mono (by decide)) ((sz_dot hn (za.mono (by decide))).mono (by decide))
        rw [h0] at h
        exact h
    · exact la_through_bad1 a0 a1 a2 b0 b1 b2 c0 c1 c2 d0 d1 d2 w hE hF V1 (fun w hE => ve_Through_bad a0 a1 a2 b0 b1 b2 c0 c1 c2 w hE (fv sa) (fv sb) (fv sc) (by unfold chk3; rw [if_neg hv]))
  · exact la_through_no0 a0 a1 a2 b0 b1 b2 c0 c1 c2 d0 d1 d2 w hE (fun N t W h => few_four ha hb hc hd false (fun k1 k2 k3 k4 => absurd ⟨k1, k2, k3, k4⟩ hs) (fun _ => rfl) N t W h)
end Go.Proofs.YtmdgfjkaamjgcaaGreatDoor
