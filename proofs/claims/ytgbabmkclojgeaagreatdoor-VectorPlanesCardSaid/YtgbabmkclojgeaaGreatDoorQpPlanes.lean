/- A PART OF THE PROOF, JOINED OUT OF 4 TEXTS. -/
import Derived.Test.YtgbabmkclojgeaaGreatDoorPnLaw
import Derived.Test.YtgbabmkclojgeaaGreatDoorQlVector
import Derived.Test.YtgbabmkclojgeaaGreatDoorPhInteger
/- Walks of the program's package vector: Through, where it fails. -/
namespace Go.Proofs.YtgbabmkclojgeaaGreatDoor
open Go.RowKit Go.Shelf Go.Sort

attribute [local go_sem] Oper.semAt_some vec_guard vec_eq

set_option maxRecDepth 100000 in
set_option maxHeartbeats 8000000 in
theorem ve_Through_flat (a0 a1 a2 b0 b1 b2 c0 c1 c2 u0 u1 u2 v0 v1 v2 n0 n1 n2 d : ByteArray) (w : World) (hE : Env w) (ha : ShV (a0, a1, a2)) (hb : ShV (b0, b1, b2)) (hc : ShV (c0, c1, c2)) (h0 : chk3 (a0, a1, a2) (b0, b1, b2) (c0, c1, c2) = 0)
    (h1 : ∀ w, Env w → Calls Tryz.prog 70 #[fnV 76, .agg #[.string b0, .string b1, .string b2], .agg #[.string a0, .string a1, .string a2]] w fun e w' => e = .returned (.agg #[.string u0, .string u1, .string u2]) ∧ Below w.heap.size w w')
    (h2 : ∀ w, Env w → Calls Tryz.prog 70 #[fnV 76, .agg #[.string c0, .string c1, .string c2], .agg #[.string a0, .string a1, .string a2]] w fun e w' => e = .returned (.agg #[.string v0, .string v1, .string v2]) ∧ Below w.heap.size w w')
    (h3 : ∀ w, Env w → Calls Tryz.prog 85 #[.agg #[.string u0, .string u1, .string u2], .agg #[.string v0, .string v1, .string v2]] w fun e w' => e = .returned (.agg #[.string n0, .string n1, .string n2]) ∧ Below w.heap.size w w')
    (h4 : ∀ w, Env w → Calls Tryz.prog 83 #[.agg #[.string n0, .string n1, .string n2], .agg #[.string a0, .string a1, .string a2]] w fun e w' => e = .returned (.string d) ∧ Below w.heap.size w w')
    (h5 : ∀ w, Env w → Calls Tryz.prog 89 #[.agg #[.string n0, .string n1, .string n2, .string d]] w fun e w' => e = .returned (.int .i64 1) ∧ Below w.heap.size w w') :
    Calls Tryz.prog 36 #[.agg #[.string a0, .string a1, .string a2], .agg #[.string b0, .string b1, .string b2], .agg #[.string c0, .string c1, .string c2]] w fun e w' => e = .returned (.tuple #[.agg #[.string ⟨#[]⟩, .string ⟨#[]⟩, .string ⟨#[]⟩, .string ⟨#[]⟩], .int .i64 16]) ∧ Below w.heap.size w w' := by
  have HC := Lib.hid (fun N t W hE h => ve_check3 (N := N) (t := t) ha hb hc W hE h)
  rw [h0] at HC
  have H1 := Lib.hid h1
  have H2 := Lib.hid h2
  have H3 := Lib.hid h3
  have H4 := Lib.hid h4
  have H5 := Lib.hid h5
  have HE := Lib.hid hE
  clear hE h1 h2 h3 h4 h5 h0 ha hb hc
  go_enter Tryz.func36, Tryz.ntmps36
  go_wp2_with fail
  generalize hW : ((((World.alloc w _).alloc _).alloc _).alloc _).alloc _ = W
  obtain ⟨hB, hsz, R3, R4, R5, R6, RS⟩ := A5 hW
  have R3 := Lib.hid R3
  have R4 := Lib.hid R4
  have R5 := Lib.hid R5
  have R6 := Lib.hid R6
  have RS := Lib.hid RS
  clear hW hsz
  refine (HC.out _ _ _ (HE.out.below hB) RS.out).mono ?_
  rintro e w1 ⟨rfl, hb⟩
  replace hB := bstep hB hb
  have R3 := Lib.hid (keep hb R3.out)
  have R4 := Lib.hid (keep hb R4.out)
  have R5 := Lib.hid (keep hb R5.out)
  have R6 := Lib.hid (keep hb R6.out)
  clear hb
  go_wp2_with fail
  go_cut [9] (fun x wc => ∃ p : Nat, x = .pointer (some ⟨p, 0, none⟩) ∧ Hid (wc.heap[p]? = some (.cells #[.string n0, .string n1, .string n2] 28 (0, 0))) ∧ Hid (wc.heap[w.heap.size]? = some (.cells #[.string a0, .string a1, .string a2] 28 (0, 0))) ∧
      Hid (wc.heap[w.heap.size + 3]? = some (.cells #[.string ⟨#[]⟩, .string ⟨#[]⟩, .string ⟨#[]⟩, .string ⟨#[]⟩] 48 (0, 0))) ∧ Below w.heap.size w wc ∧ w.heap.size + 3 < p)
  case first =>
    obtain ⟨R3c0, R3c1, R3c2, R3f0, R3f1, R3f2⟩ := row3 R3.out
    obtain ⟨R4c0, R4c1, R4c2, R4f0, R4f1, R4f2⟩ := row3 R4.out
    obtain ⟨R5c0, R5c1, R5c2, R5f0, R5f1, R5f2⟩ := row3 R5.out
    have lw := lt_of_row R6.out
    have hB0 := hB.drew
    first
    | go_region_held3 (fun w' => w'.cell? ⟨w.heap.size, 0, none⟩ = some (.string a0) ∧ w'.cell? ⟨w.heap.size, 1, none⟩ = some (.string a1) ∧ w'.cell? ⟨w.heap.size, 2, none⟩ = some (.string a2) ∧ w'.cell? ⟨w.heap.size + 1, 0, none⟩ = some (.string b0) ∧ w'.cell? ⟨w.heap.size + 1, 1, none⟩ = some (.string b1) ∧ w'.cell? ⟨w.heap.size + 1, 2, none⟩ = some (.string b2) ∧ w'.cell? ⟨w.heap.size + 2, 0, none⟩ = some (.string c0) ∧ w'.cell? ⟨w.heap.size + 2, 1, none⟩ = some (.string c1) ∧ w'.cell? ⟨w.heap.size + 2, 2, none⟩ = some (.string c2)) (first | with_reducible exact k9D ⟨R3c0, R3c1, R3c2, R4c0, R4c1, R4c2, R5c0, R5c1, R5c2⟩ | with_reducible exact ⟨by with_reducible assumption, by with_reducible assumption, by with_reducible assumption, by with_reducible assumption, by with_reducible assumption, by with_reducible assumption, by with_reducible assumption, by with_reducible assumption, by with_reducible assumption⟩ | with_reducible exact k9L ⟨by with_reducible assumption, by with_reducible assumption, by with_reducible assumption, by with_reducible assumption, by with_reducible assumption, by with_reducible assumption, by with_reducible assumption, by with_reducible assumption, by with_reducible assumption⟩ | with_reducible exact k9A ⟨R3c0, R3c1, R3c2, R4c0, R4c1, R4c2, R5c0, R5c1, R5c2⟩ | with_reducible exact k9S (by omega) (by omega) (by omega) (k9S (by omega) (by omega) (by omega) (k9S (by omega) (by omega) (by omega) ⟨by with_reducible assumption, by with_reducible assumption, by with_reducible assumption, by with_reducible assumption, by with_reducible assumption, by with_reducible assumption, by with_reducible assumption, by with_reducible assumption, by with_reducible assumption⟩)))
        (first
          | ((first | go_at_call 70); (with_reducible refine (H1.out _ (HE.out.below (by first | exact hB0 | exact bstep hB0 (A1 rfl).1 | exact (bstep hB0 (A1 rfl).1).drew))).mono ?_); rintro e w2 ⟨rfl, hb⟩; have hB1 : Below w.heap.size w w2 := (by first | exact bstep hB0 hb | exact bstep (bstep hB0 (A1 rfl).1) hb | exact bstep (bstep hB0 (A1 rfl).1).drew hb); (first | (with_reducible have R3 := Lib.hid (keep hb R3.out)) | (with_reducible have R3 := Lib.hid (keep hb (old1 R3.out))) | (with_reducible have R3 := Lib.hid (keep hb (oldD R3.out))) | (with_reducible have R3 := Lib.hid (keep hb (old1D R3.out)))); (first | (with_reducible have R4 := Lib.hid (keep hb R4.out)) | (with_reducible have R4 := Lib.hid (keep hb (old1 R4.out))) | (with_reducible have R4 := Lib.hid (keep hb (oldD R4.out))) | (with_reducible have R4 := Lib.hid (keep hb (old1D R4.out)))); (first | (with_reducible have R5 := Lib.hid (keep hb R5.out)) | (with_reducible have R5 := Lib.hid (keep hb (old1 R5.out))) | (with_reducible have R5 := Lib.hid (keep hb (oldD R5.out))) | (with_reducible have R5 := Lib.hid (keep hb (old1D R5.out)))); (first | (with_reducible have R6 := Lib.hid (keep hb R6.out)) | (with_reducible have R6 := Lib.hid (keep hb (old1 R6.out))) | (with_reducible have R6 := Lib.hid (keep hb (oldD R6.out))) | (with_reducible have R6 := Lib.hid (keep hb (old1D R6.out)))); (first | (have RN := Lib.hid (keep hb RN.out)) | (with_reducible have RN := Lib.hid (keep hb (heap_alloc_new _ _))) | (with_reducible have RN := Lib.hid (keep hb (newD _ _))) | skip); obtain ⟨R3d0, R3d1, R3d2, R3g0, R3g1, R3g2⟩ := row3 R3.out; obtain ⟨R4d0, R4d1, R4d2, R4g0, R4g1, R4g2⟩ := row3 R4.out; obtain ⟨R5d0, R5d1, R5d2, R5g0, R5g1, R5g2⟩ := row3 R5.out; have lw2 := lt_of_row R6.out; (first | (have RNx := row3 RN.out; obtain ⟨RNd0, RNd1, RNd2, RNg0, RNg1, RNg2⟩ := RNx) | skip); clear hb)
          | ((first | go_at_call 70); (with_reducible refine (H2.out _ (HE.out.below (by first | exact hB1 | exact bstep hB1 (A1 rfl).1 | exact (bstep hB1 (A1 rfl).1).drew))).mono ?_); rintro e w3 ⟨rfl, hb⟩; have hB2 : Below w.heap.size w w3 := (by first | exact bstep hB1 hb | exact bstep (bstep hB1 (A1 rfl).1) hb | exact bstep (bstep hB1 (A1 rfl).1).drew hb); (first | (with_reducible have R3 := Lib.hid (keep hb R3.out)) | (with_reducible have R3 := Lib.hid (keep hb (old1 R3.out))) | (with_reducible have R3 := Lib.hid (keep hb (oldD R3.out))) | (with_reducible have R3 := Lib.hid (keep hb (old1D R3.out)))); (first | (with_reducible have R4 := Lib.hid (keep hb R4.out)) | (with_reducible have R4 := Lib.hid (keep hb (old1 R4.out))) | (with_reducible have R4 := Lib.hid (keep hb (oldD R4.out))) | (with_reducible have R4 := Lib.hid (keep hb (old1D R4.out)))); (first | (with_reducible have R5 := Lib.hid (keep hb R5.out)) | (with_reducible have R5 := Lib.hid (keep hb (old1 R5.out))) | (with_reducible have R5 := Lib.hid (keep hb (oldD R5.out))) | (with_reducible have R5 := Lib.hid (keep hb (old1D R5.out)))); (first | (with_reducible have R6 := Lib.hid (keep hb R6.out)) | (with_reducible have R6 := Lib.hid (keep hb (old1 R6.out))) | (with_reducible have R6 := Lib.hid (keep hb (oldD R6.out))) | (with_reducible have R6 := Lib.hid (keep hb (old1D R6.out)))); (first | (have RN := Lib.hid (keep hb RN.out)) | (with_reducible have RN := Lib.hid (keep hb (heap_alloc_new _ _))) | (with_reducible have RN := Lib.hid (keep hb (newD _ _))) | skip); obtain ⟨R3d0, R3d1, R3d2, R3g0, R3g1, R3g2⟩ := row3 R3.out; obtain ⟨R4d0, R4d1, R4d2, R4g0, R4g1, R4g2⟩ := row3 R4.out; obtain ⟨R5d0, R5d1, R5d2, R5g0, R5g1, R5g2⟩ := row3 R5.out; have lw3 := lt_of_row R6.out; (first | (have RNx := row3 RN.out; obtain ⟨RNd0, RNd1, RNd2, RNg0, RNg1, RNg2⟩ := RNx) | skip); clear hb)
          | ((first | go_at_call 85); (with_reducible refine (H3.out _ (HE.out.below (by first | exact hB2 | exact bstep hB2 (A1 rfl).1 | exact (bstep hB2 (A1 rfl).1).drew))).mono ?_); rintro e w4 ⟨rfl, hb⟩; have hB3 : Below w.heap.size w w4 := (by first | exact bstep hB2 hb | exact bstep (bstep hB2 (A1 rfl).1) hb | exact bstep (bstep hB2 (A1 rfl).1).drew hb); (first | (with_reducible have R3 := Lib.hid (keep hb R3.out)) | (with_reducible have R3 := Lib.hid (keep hb (old1 R3.out))) | (with_reducible have R3 := Lib.hid (keep hb (oldD R3.out))) | (with_reducible have R3 := Lib.hid (keep hb (old1D R3.out)))); (first | (with_reducible have R4 := Lib.hid (keep hb R4.out)) | (with_reducible have R4 := Lib.hid (keep hb (old1 R4.out))) | (with_reducible have R4 := Lib.hid (keep hb (oldD R4.out))) | (with_reducible have R4 := Lib.hid (keep hb (old1D R4.out)))); (first | (with_reducible have R5 := Lib.hid (keep hb R5.out)) | (with_reducible have R5 := Lib.hid (keep hb (old1 R5.out))) | (with_reducible have R5 := Lib.hid (keep hb (oldD R5.out))) | (with_reducible have R5 := Lib.hid (keep hb (old1D R5.out)))); (first | (with_reducible have R6 := Lib.hid (keep hb R6.out)) | (with_reducible have R6 := Lib.hid (keep hb (old1 R6.out))) | (with_reducible have R6 := Lib.hid (keep hb (oldD R6.out))) | (with_reducible have R6 := Lib.hid (keep hb (old1D R6.out)))); (first | (have RN := Lib.hid (keep hb RN.out)) | (with_reducible have RN := Lib.hid (keep hb (heap_alloc_new _ _))) | (with_reducible have RN := Lib.hid (keep hb (newD _ _))) | skip); obtain ⟨R3d0, R3d1, R3d2, R3g0, R3g1, R3g2⟩ := row3 R3.out; obtain ⟨R4d0, R4d1, R4d2, R4g0, R4g1, R4g2⟩ := row3 R4.out; obtain ⟨R5d0, R5d1, R5d2, R5g0, R5g1, R5g2⟩ := row3 R5.out; have lw4 := lt_of_row R6.out; (first | (have RNx := row3 RN.out; obtain ⟨RNd0, RNd1, RNd2, RNg0, RNg1, RNg2⟩ := RNx) | skip); clear hb))
    | fail
    all_goals
      go_wp2_with fail
      go_meet
      first
      | with_reducible exact ⟨_, rfl, Lib.hid (heap_alloc_new _ _), Lib.hid (old1 R3.out), Lib.hid (old1 R6.out), bstep hB3 (A1 rfl).1, by omega⟩
      | with_reducible exact ⟨_, rfl, Lib.hid (store3 RN.out _ _ _), Lib.hid (store3_other (by omega) R3.out _ _ _), Lib.hid (store3_other (by omega) R6.out _ _ _), store3_below hB3 (by omega) _ _ _, by omega⟩
  case rest =>
    obtain ⟨p, rfl, RP, R3, R6, hB, hp⟩ := hcut
    clear R4 R5
    go_wp2_with fail
    go_cut [10] (fun x wd => ∃ q : Nat, x = .pointer (some ⟨q, 0, none⟩) ∧ Hid (wd.heap[q]? = some (.cells #[.string n0, .string n1, .string n2, .string d] 48 (0, 0))) ∧
      Hid (wd.heap[w.heap.size + 3]? = some (.cells #[.string ⟨#[]⟩, .string ⟨#[]⟩, .string ⟨#[]⟩, .string ⟨#[]⟩] 48 (0, 0))) ∧ Below w.heap.size w wd)
    case first =>
      obtain ⟨RPc0, RPc1, RPc2, RPf0, RPf1, RPf2⟩ := row3 RP.out
      obtain ⟨R3c0, R3c1, R3c2, R3f0, R3f1, R3f2⟩ := row3 R3.out
      have lw := lt_of_row R6.out
      have lp := lt_of_row RP.out
      have hB0 := hB.drew
      first
      | go_region_held3 (fun w' => w'.cell? ⟨p, 0, none⟩ = some (.string n0) ∧ w'.cell? ⟨p, 1, none⟩ = some (.string n1) ∧ w'.cell? ⟨p, 2, none⟩ = some (.string n2) ∧ w'.cell? ⟨w.heap.size, 0, none⟩ = some (.string a0) ∧ w'.cell? ⟨w.heap.size, 1, none⟩ = some (.string a1) ∧ w'.cell? ⟨w.heap.size, 2, none⟩ = some (.string a2)) (first | with_reducible exact k6pD ⟨RPc0, RPc1, RPc2, R3c0, R3c1, R3c2⟩ | with_reducible exact ⟨by with_reducible assumption, by with_reducible assumption, by with_reducible assumption, by with_reducible assumption, by with_reducible assumption, by with_reducible assumption⟩ | with_reducible exact k6pL ⟨by with_reducible assumption, by with_reducible assumption, by with_reducible assumption, by with_reducible assumption, by with_reducible assumption, by with_reducible assumption⟩ | with_reducible exact k6pA ⟨RPc0, RPc1, RPc2, R3c0, R3c1, R3c2⟩ | with_reducible exact k6pS (by omega) (by omega) (k6pS (by omega) (by omega) (k6pS (by omega) (by omega) (k6pS (by omega) (by omega) ⟨by with_reducible assumption, by with_reducible assumption, by with_reducible assumption, by with_reducible assumption, by with_reducible assumption, by with_reducible assumption⟩))))
          (first
            | ((first | go_at_call 83); (with_reducible refine (H4.out _ (HE.out.below (by first | exact hB0 | exact (bstep hB (A1 rfl).1).drew))).mono ?_); rintro e w5 ⟨rfl, hb⟩; have hB1 : Below w.heap.size w w5 := (by first | exact bstep hB0 hb | exact bstep (bstep hB (A1 rfl).1).drew hb); (first | (with_reducible have RP := Lib.hid (keep hb RP.out)) | (with_reducible have RP := Lib.hid (keep hb (old1 RP.out))) | (with_reducible have RP := Lib.hid (keep hb (oldD RP.out))) | (with_reducible have RP := Lib.hid (keep hb (old1D RP.out)))); (first | (with_reducible have R3 := Lib.hid (keep hb R3.out)) | (with_reducible have R3 := Lib.hid (keep hb (old1 R3.out))) | (with_reducible have R3 := Lib.hid (keep hb (oldD R3.out))) | (with_reducible have R3 := Lib.hid (keep hb (old1D R3.out)))); (first | (with_reducible have R6 := Lib.hid (keep hb R6.out)) | (with_reducible have R6 := Lib.hid (keep hb (old1 R6.out))) | (with_reducible have R6 := Lib.hid (keep hb (oldD R6.out))) | (with_reducible have R6 := Lib.hid (keep hb (old1D R6.out)))); (first | (with_reducible have RN := Lib.hid (keep hb (heap_alloc_new _ _))) | (with_reducible have RN := Lib.hid (keep hb (newD _ _))) | skip); obtain ⟨d0, d1, d2, g0, g1, g2⟩ := row3 RP.out; obtain ⟨j0, j1, j2, k0, k1, k2⟩ := row3 R3.out; have lw5 := lt_of_row R6.out; (first | (have RNx := row4 RN.out; obtain ⟨RNd0, RNd1, RNd2, RNd3, RNg0, RNg1, RNg2, RNg3⟩ := RNx) | skip); clear hb))
      | fail
      all_goals
        go_wp2_with fail
        go_meet
        first
        | with_reducible exact ⟨_, rfl, Lib.hid (heap_alloc_new _ _), Lib.hid (old1 R6.out), bstep hB1 (A1 rfl).1⟩
        | with_reducible exact ⟨_, rfl, Lib.hid (store4 RN.out _ _ _ _), Lib.hid (store4_other (by omega) R6.out _ _ _ _), store4_below hB1 (by omega) _ _ _ _⟩
    case rest =>
      obtain ⟨q, rfl, RQ, R6, hB⟩ := hcut
      obtain ⟨q0, q1, q2, q3, q4, q5, q6, q7⟩ := row4 RQ.out
      go_wp2_with fail
      clear q0 q1 q2 q3 q4 q5 q6 q7
      refine (H5.out _ (HE.out.below hB)).mono ?_
      rintro e w9 ⟨rfl, hb⟩
      replace hB := bstep hB hb
      have RQ := Lib.hid (keep hb RQ.out)
      have R6 := Lib.hid (keep hb R6.out)
      clear hb
      obtain ⟨q0, q1, q2, q3, q4, q5, q6, q7⟩ := row4 RQ.out
      obtain ⟨r0, r1, r2, r3, r4, r5, r6, r7⟩ := row4 R6.out
      go_wp2_with fail
      exact bodyPost_ret (res_ct rfl plane_row rfl (store4 R6.out _ _ _ _) rfl) rfl ⟨rfl, store4_below hB (by omega) _ _ _ _⟩


set_option maxRecDepth 100000 in
set_option maxHeartbeats 8000000 in
theorem ve_Through_bad (a0 a1 a2 b0 b1 b2 c0 c1 c2 : ByteArray) (w : World) (hE : Env w) (ha : ShV (a0, a1, a2)) (hb : ShV (b0, b1, b2)) (hc : ShV (c0, c1, c2)) (h0 : chk3 (a0, a1, a2) (b0, b1, b2) (c0, c1, c2) = 1) :
    Calls Tryz.prog 36 #[.agg #[.string a0, .string a1, .string a2], .agg #[.string b0, .string b1, .string b2], .agg #[.string c0, .string c1, .string c2]] w fun e w' => e = .returned (.tuple #[.agg #[.string ⟨#[]⟩, .string ⟨#[]⟩, .string ⟨#[]⟩, .string ⟨#[]⟩], .int .i64 1]) ∧ Below w.heap.size w w' := by
  have HC := Lib.hid (fun N t W hE h => ve_check3 (N := N) (t := t) ha hb hc W hE h)
  rw [h0] at HC
  have HE := Lib.hid hE
  clear hE h0 ha hb hc
  go_enter Tryz.func36, Tryz.ntmps36
  go_wp2_with fail
  generalize hW : ((((World.alloc w _).alloc _).alloc _).alloc _).alloc _ = W
  obtain ⟨hB, hsz, R3, R4, R5, R6, RS⟩ := A5 hW
  have R3 := Lib.hid R3
  have R4 := Lib.hid R4
  have R5 := Lib.hid R5
  have R6 := Lib.hid R6
  have RS := Lib.hid RS
  clear hW hsz
  refine (HC.out _ _ _ (HE.out.below hB) RS.out).mono ?_
  rintro e w1 ⟨rfl, hb⟩
  replace hB := bstep hB hb
  have R6 := Lib.hid (keep hb R6.out)
  clear hb
  obtain ⟨r0, r1, r2, r3, r4, r5, r6, r7⟩ := row4 R6.out
  go_wp2_with fail
  exact bodyPost_ret (res_ct rfl plane_row rfl (store4 R6.out _ _ _ _) rfl) rfl ⟨rfl, store4_below hB (by omega) _ _ _ _⟩
end Go.Proofs.YtgbabmkclojgeaaGreatDoor

/- Walks of the program's package vector: Crossing, where it fails. -/
namespace Go.Proofs.YtgbabmkclojgeaaGreatDoor
open Go.RowKit Go.Shelf Go.Sort

attribute [local go_sem] Oper.semAt_some

set_option maxRecDepth 100000 in
set_option maxHeartbeats 8000000 in
theorem ve_Crossing_bad1 (n0 n1 n2 c a0 a1 a2 b0 b1 b2 : ByteArray) (w : World) (hE : Env w)
    (h1 : ∀ w, Env w → Calls Tryz.prog 89 #[.agg #[.string n0, .string n1, .string n2, .string c]] w fun e w' => e = .returned (.int .i64 1) ∧ Below w.heap.size w w') :
    Calls Tryz.prog 38 #[.agg #[.string n0, .string n1, .string n2, .string c], .agg #[.string a0, .string a1, .string a2], .agg #[.string b0, .string b1, .string b2]] w fun e w' => e = .returned (.tuple #[.agg #[.string ⟨#[]⟩, .string ⟨#[]⟩, .string ⟨#[]⟩], .int .i64 1]) ∧ Below w.heap.size w w' := by
  have H1 := Lib.hid h1
  have HE := Lib.hid hE
  clear hE h1
  go_enter Tryz.func38, Tryz.ntmps38
  go_wp2_with fail
  generalize hW : (((World.alloc w _).alloc _).alloc _).alloc _ = W
  obtain ⟨hB, hsz, R3, R4, R5, R6⟩ := A4 hW
  have R3 := Lib.hid R3
  have R4 := Lib.hid R4
  have R5 := Lib.hid R5
  have R6 := Lib.hid R6
  clear hW hsz
  refine (H1.out _ (HE.out.below hB)).mono ?_
  rintro e w1 ⟨rfl, hb⟩
  replace hB := bstep hB hb
  have R3 := Lib.hid (keep hb R3.out)
  have R4 := Lib.hid (keep hb R4.out)
  have R5 := Lib.hid (keep hb R5.out)
  have R6 := Lib.hid (keep hb R6.out)
  clear hb
  obtain ⟨R6c0, R6c1, R6c2, R6f0, R6f1, R6f2⟩ := row3 R6.out
  go_wp2_with fail
  exact bodyPost_ret (res_ct rfl vec_row rfl (store3 R6.out _ _ _) rfl) rfl ⟨rfl, store3_below hB (by omega) _ _ _⟩

set_option maxRecDepth 100000 in
set_option maxHeartbeats 8000000 in
theorem ve_Crossing_bad2 (n0 n1 n2 c a0 a1 a2 b0 b1 b2 : ByteArray) (w : World) (hE : Env w) (ha : ShV (a0, a1, a2)) (hb : ShV (b0, b1, b2)) (h0 : chk2 (a0, a1, a2) (b0, b1, b2) = 1)
    (h1 : ∀ w, Env w → Calls Tryz.prog 89 #[.agg #[.string n0, .string n1, .string n2, .string c]] w fun e w' => e = .returned (.int .i64 0) ∧ Below w.heap.size w w') :
    Calls Tryz.prog 38 #[.agg #[.string n0, .string n1, .string n2, .string c], .agg #[.string a0, .string a1, .string a2], .agg #[.string b0, .string b1, .string b2]] w fun e w' => e = .returned (.tuple #[.agg #[.string ⟨#[]⟩, .string ⟨#[]⟩, .string ⟨#[]⟩], .int .i64 1]) ∧ Below w.heap.size w w' := by
  have HC := Lib.hid (fun N t W hE h => ve_check2 (N := N) (t := t) ha hb W hE h)
  rw [h0] at HC
  have H1 := Lib.hid h1
  have HE := Lib.hid hE
  clear hE h1 h0 ha hb
  go_enter Tryz.func38, Tryz.ntmps38
  go_wp2_with fail
  generalize hW : (((World.alloc w _).alloc _).alloc _).alloc _ = W
  obtain ⟨hB, hsz, R3, R4, R5, R6⟩ := A4 hW
  have R3 := Lib.hid R3
  have R4 := Lib.hid R4
  have R5 := Lib.hid R5
  have R6 := Lib.hid R6
  clear hW hsz
  refine (H1.out _ (HE.out.below hB)).mono ?_
  rintro e w1 ⟨rfl, hb⟩
  replace hB := bstep hB hb
  have R3 := Lib.hid (keep hb R3.out)
  have R4 := Lib.hid (keep hb R4.out)
  have R5 := Lib.hid (keep hb R5.out)
  have R6 := Lib.hid (keep hb R6.out)
  clear hb
  obtain ⟨R4c0, R4c1, R4c2, R4f0, R4f1, R4f2⟩ := row3 R4.out
  obtain ⟨R5c0, R5c1, R5c2, R5f0, R5f1, R5f2⟩ := row3 R5.out
  go_wp2_with fail
  clear R4c0 R4c1 R4c2 R4f0 R4f1 R4f2
  clear R5c0 R5c1 R5c2 R5f0 R5f1 R5f2
  generalize hW : World.alloc _ _ = V
  obtain ⟨hb, hsz, RS⟩ := A1 hW
  replace hB := bstep hB hb
  have R3 := Lib.hid (keep hb R3.out)
  have R4 := Lib.hid (keep hb R4.out)
  have R5 := Lib.hid (keep hb R5.out)
  have R6 := Lib.hid (keep hb R6.out)
  clear hb
  have RS := Lib.hid RS
  clear hW hsz
  refine (HC.out _ _ _ (HE.out.below hB) RS.out).mono ?_
  rintro e w2 ⟨rfl, hb⟩
  replace hB := bstep hB hb
  have R6 := Lib.hid (keep hb R6.out)
  clear hb RS
  obtain ⟨R6c0, R6c1, R6c2, R6f0, R6f1, R6f2⟩ := row3 R6.out
  go_wp2_with fail
  exact bodyPost_ret (res_ct rfl vec_row rfl (store3 R6.out _ _ _) rfl) rfl ⟨rfl, store3_below hB (by omega) _ _ _⟩

set_option maxRecDepth 100000 in
set_option maxHeartbeats 8000000 in
theorem ve_Crossing_same (n0 n1 n2 c a0 a1 a2 b0 b1 b2 hx hy : ByteArray) (sx sy : Int) (w : World) (hE : Env w) (ha : ShV (a0, a1, a2)) (hb : ShV (b0, b1, b2)) (h0 : chk2 (a0, a1, a2) (b0, b1, b2) = 0) (hs : ((decide (0 < sx)) == (decide (0 < sy))) = true)
    (h1 : ∀ w, Env w → Calls Tryz.prog 89 #[.agg #[.string n0, .string n1, .string n2, .string c]] w fun e w' => e = .returned (.int .i64 0) ∧ Below w.heap.size w w')
    (h2 : ∀ w, Env w → Calls Tryz.prog 91 #[.agg #[.string n0, .string n1, .string n2, .string c], .agg #[.string a0, .string a1, .string a2]] w fun e w' => e = .returned (.string hx) ∧ Below w.heap.size w w')
    (h3 : ∀ w, Env w → Calls Tryz.prog 91 #[.agg #[.string n0, .string n1, .string n2, .string c], .agg #[.string b0, .string b1, .string b2]] w fun e w' => e = .returned (.string hy) ∧ Below w.heap.size w w')
    (h4 : ∀ w, Env w → Calls Tryz.prog 90 #[.string hx] w fun e w' => e = .returned (.int .i64 sx) ∧ Below w.heap.size w w')
    (h5 : ∀ w, Env w → Calls Tryz.prog 90 #[.string hy] w fun e w' => e = .returned (.int .i64 sy) ∧ Below w.heap.size w w') :
    Calls Tryz.prog 38 #[.agg #[.string n0, .string n1, .string n2, .string c], .agg #[.string a0, .string a1, .string a2], .agg #[.string b0, .string b1, .string b2]] w fun e w' => e = .returned (.tuple #[.agg #[.string ⟨#[]⟩, .string ⟨#[]⟩, .string ⟨#[]⟩], .int .i64 11]) ∧ Below w.heap.size w w' := by
  have HC := Lib.hid (fun N t W hE h => ve_check2 (N := N) (t := t) ha hb W hE h)
  rw [h0] at HC
  have H1 := Lib.hid h1
  have H2 := Lib.hid h2
  have H3 := Lib.hid h3
  have H4 := Lib.hid h4
  have H5 := Lib.hid h5
  have HE := Lib.hid hE
  clear hE h1 h2 h3 h4 h5 h0 ha hb
  go_enter Tryz.func38, Tryz.ntmps38
  go_wp2_with fail
  generalize hW : (((World.alloc w _).alloc _).alloc _).alloc _ = W
  obtain ⟨hB, hsz, R3, R4, R5, R6⟩ := A4 hW
  have R3 := Lib.hid R3
  have R4 := Lib.hid R4
  have R5 := Lib.hid R5
  have R6 := Lib.hid R6
  clear hW hsz
  refine (H1.out _ (HE.out.below hB)).mono ?_
  rintro e w1 ⟨rfl, hb⟩
  replace hB := bstep hB hb
  have R3 := Lib.hid (keep hb R3.out)
  have R4 := Lib.hid (keep hb R4.out)
  have R5 := Lib.hid (keep hb R5.out)
  have R6 := Lib.hid (keep hb R6.out)
  clear hb
  obtain ⟨R4c0, R4c1, R4c2, R4f0, R4f1, R4f2⟩ := row3 R4.out
  obtain ⟨R5c0, R5c1, R5c2, R5f0, R5f1, R5f2⟩ := row3 R5.out
  go_wp2_with fail
  clear R4c0 R4c1 R4c2 R4f0 R4f1 R4f2
  clear R5c0 R5c1 R5c2 R5f0 R5f1 R5f2
  generalize hW : World.alloc _ _ = V
  obtain ⟨hb, hsz, RS⟩ := A1 hW
  replace hB := bstep hB hb
  have R3 := Lib.hid (keep hb R3.out)
  have R4 := Lib.hid (keep hb R4.out)
  have R5 := Lib.hid (keep hb R5.out)
  have R6 := Lib.hid (keep hb R6.out)
  clear hb
  have RS := Lib.hid RS
  clear hW hsz
  refine (HC.out _ _ _ (HE.out.below hB) RS.out).mono ?_
  rintro e w2 ⟨rfl, hb⟩
  replace hB := bstep hB hb
  have R3 := Lib.hid (keep hb R3.out)
  have R4 := Lib.hid (keep hb R4.out)
  have R5 := Lib.hid (keep hb R5.out)
  have R6 := Lib.hid (keep hb R6.out)
  clear hb RS
  go_wp2_with fail
  have e0 : ∀ d os, (grow (redrawn w2 d) os).cell? ⟨w.heap.size, 0, none⟩ = some (.string n0) := fun d os => cell_regrown (row4 R3.out).1 d os
  have e1 : ∀ d os, (grow (redrawn w2 d) os).cell? ⟨w.heap.size, 1, none⟩ = some (.string n1) := fun d os => cell_regrown (row4 R3.out).2.1 d os
  have e2 : ∀ d os, (grow (redrawn w2 d) os).cell? ⟨w.heap.size, 2, none⟩ = some (.string n2) := fun d os => cell_regrown (row4 R3.out).2.2.1 d os
  have e3 : ∀ d os, (grow (redrawn w2 d) os).cell? ⟨w.heap.size, 3, none⟩ = some (.string c) := fun d os => cell_regrown (row4 R3.out).2.2.2.1 d os
  have e4 : ∀ d os, (grow (redrawn w2 d) os).cell? ⟨w.heap.size + 1, 0, none⟩ = some (.string a0) := fun d os => cell_regrown (row3 R4.out).1 d os
  have e5 : ∀ d os, (grow (redrawn w2 d) os).cell? ⟨w.heap.size + 1, 1, none⟩ = some (.string a1) := fun d os => cell_regrown (row3 R4.out).2.1 d os
  have e6 : ∀ d os, (grow (redrawn w2 d) os).cell? ⟨w.heap.size + 1, 2, none⟩ = some (.string a2) := fun d os => cell_regrown (row3 R4.out).2.2.1 d os
  have e7 : ∀ d os, (grow (redrawn w2 d) os).cell? ⟨w.heap.size + 2, 0, none⟩ = some (.string b0) := fun d os => cell_regrown (row3 R5.out).1 d os
  have e8 : ∀ d os, (grow (redrawn w2 d) os).cell? ⟨w.heap.size + 2, 1, none⟩ = some (.string b1) := fun d os => cell_regrown (row3 R5.out).2.1 d os
  have e9 : ∀ d os, (grow (redrawn w2 d) os).cell? ⟨w.heap.size + 2, 2, none⟩ = some (.string b2) := fun d os => cell_regrown (row3 R5.out).2.2.1 d os
  have hE := HE.out.below hB
  have S1 := Lib.hid (fun d os => Calls.regrown_of (H2.out (grow (redrawn w2 d) os) (hE.below (below_regrown w2 d os))))
  have S2 := Lib.hid (fun d os => Calls.regrown_of (H3.out (grow (redrawn w2 d) os) (hE.below (below_regrown w2 d os))))
  clear hE H2 H3
  refine wp_region_quiet_below (by kernel_rfl) (by kernel_rfl) ?_
  repeat (first | quiet_step (with_reducible exact S1.out _ _) | quiet_step (with_reducible exact S2.out _ _))
  refine wpQuiet_nil ?_
  intro _ hw'
  obtain ⟨⟨dq, osq⟩, hw''⟩ := hw'
  subst hw''
  have hb := below_regrown w2 dq osq
  clear e0 e1 e2 e3 e4 e5 e6 e7 e8 e9 S1 S2
  generalize grow (redrawn w2 dq) osq = W3 at *
  replace hB := bstep hB hb
  have R4 := Lib.hid (keep hb R4.out)
  have R5 := Lib.hid (keep hb R5.out)
  have R6 := Lib.hid (keep hb R6.out)
  clear hb R3
  go_wp2_with fail
  refine (H4.out _ (HE.out.below hB)).mono ?_
  rintro e w4 ⟨rfl, hb⟩
  replace hB := bstep hB hb
  have R4 := Lib.hid (keep hb R4.out)
  have R5 := Lib.hid (keep hb R5.out)
  have R6 := Lib.hid (keep hb R6.out)
  clear hb
  go_wp2_with fail
  refine (H5.out _ (HE.out.below hB)).mono ?_
  rintro e w5 ⟨rfl, hb⟩
  replace hB := bstep hB hb
  have R4 := Lib.hid (keep hb R4.out)
  have R5 := Lib.hid (keep hb R5.out)
  have R6 := Lib.hid (keep hb R6.out)
  clear hb
  obtain ⟨R6c0, R6c1, R6c2, R6f0, R6f1, R6f2⟩ := row3 R6.out
  go_wp2_with fail
  exact bodyPost_ret (res_ct rfl vec_row rfl (store3 R6.out _ _ _) rfl) rfl ⟨rfl, store3_below hB (by omega) _ _ _⟩
end Go.Proofs.YtgbabmkclojgeaaGreatDoor

/- The program's package vector at whatever short texts: plane, Side, Through, Crossing. -/
namespace Go.Proofs.YtgbabmkclojgeaaGreatDoor
open Go.RowKit Go.Shelf Go.Sort

attribute [local go_sem] Oper.semAt_some

/-- Is the plane with four texts valid? -/
noncomputable def pokB (p : ByteArray × ByteArray × ByteArray) (q : ByteArray) : Bool := vvB p && rvB q && !zero3 (vvX p)
@[reducible] def tpW (p : ByteArray × ByteArray × ByteArray) (q : ByteArray) : Value := .agg #[.string p.1, .string p.2.1, .string p.2.2, .string q]
@[reducible] def e4W : Value := .agg #[.string ⟨#[]⟩, .string ⟨#[]⟩, .string ⟨#[]⟩, .string ⟨#[]⟩]

theorem pok_texts (p0 p1 p2 q : ByteArray) : planeR (rvB p0 && rvB p1 && rvB p2) (rvB q) ((p0.toList == [48]) && ((p1.toList == [48]) && (p2.toList == [48]))) = eres (pokB (p0, p1, p2) q) := by
  unfold planeR eres pokB
  rw [show vvB (p0, p1, p2) = (rvB p0 && rvB p1 && rvB p2) from rfl]
  cases hv : (rvB p0 && rvB p1 && rvB p2)
  · simp
  · have et := vv_text (s := (p0, p1, p2)) hv
    simp only [Prod.mk.injEq] at et
    have z0 : (p0.toList == [48]) = decide ((vvX (p0, p1, p2)).x = 0) := (congrArg (fun s : ByteArray => s.toList == [48]) et.1).trans (rs_zero _)
    have z1 : (p1.toList == [48]) = decide ((vvX (p0, p1, p2)).y = 0) := (congrArg (fun s : ByteArray => s.toList == [48]) et.2.1).trans (rs_zero _)
    have z2 : (p2.toList == [48]) = decide ((vvX (p0, p1, p2)).z = 0) := (congrArg (fun s : ByteArray => s.toList == [48]) et.2.2).trans (rs_zero _)
    rw [z0, z1, z2]
    rfl
theorem ve_planeA (p : ByteArray × ByteArray × ByteArray) (q : ByteArray) (w : World) (hE : Env w) (hp : Sh20 p) (hq : q.size ≤ 20) :
    Calls Tryz.prog 89 #[tpW p q] w fun e w' => e = .returned (.int .i64 (eres (pokB p q))) ∧ Below w.heap.size w w' := by
  obtain ⟨p0, p1, p2⟩ := p
  have fw : ∀ {s : ByteArray}, s.size ≤ 20 → s.size ≤ 10000000 := fun h => Nat.le_trans h (by decide)
  have h := ve_plane p0 p1 p2 q (rvB p0 && rvB p1 && rvB p2) (rvB q) _ _ _ w hE (fun w hE => ve_Valid p0 p1 p2 w hE (fw hp.1) (fw hp.2.1) (fw hp.2.2)) (fun w hE => ra_Valid q w hE (fw hq)) rfl rfl rfl
  rw [pok_texts] at h
  exact h
theorem pok_rs {p : ByteArray × ByteArray × ByteArray} {q : ByteArray} (h : pokB p q = true) : p = (rs (vvX p).x, rs (vvX p).y, rs (vvX p).z) ∧ q = rs (rvX q) ∧ zero3 (vvX p) = false := by
  unfold pokB at h
  rw [Bool.and_eq_true, Bool.and_eq_true] at h
  obtain ⟨⟨h1, h2⟩, h3⟩ := h
  obtain ⟨x, hx⟩ := (rvB_iff q).1 h2
  refine ⟨vv_text h1, ?_, by simpa using h3⟩
  subst hx
  rw [rvX_rs]

/-! Side. -/
set_option maxRecDepth 100000 in
set_option maxHeartbeats 4000000 in
theorem ve_Side_err1 (n0 n1 n2 c a0 a1 a2 : ByteArray) (w : World) (hE : Env w)
    (h1 : ∀ w, Env w → Calls Tryz.prog 89 #[.agg #[.string n0, .string n1, .string n2, .string c]] w fun e w' => e = .returned (.int .i64 1) ∧ Below w.heap.size w w') :
    Calls Tryz.prog 34 #[.agg #[.string n0, .string n1, .string n2, .string c], .agg #[.string a0, .string a1, .string a2]] w fun e w' => e = .returned (.tuple #[.int .i64 0, .int .i64 1]) ∧ Below w.heap.size w w' := by
  have HL := Lib.hid h1
  have HE := Lib.hid hE
  clear hE h1
  go_enter Tryz.func34, Tryz.ntmps34
  go_wp2_with fail
  generalize hW : (World.alloc w _).alloc _ = W
  obtain ⟨hB, hsz, R2, R3⟩ := A2 hW
  have R2 := Lib.hid R2
  have R3 := Lib.hid R3
  clear hW hsz
  refine (HL.out _ (HE.out.below hB)).mono ?_
  rintro e w1 ⟨rfl, hb⟩
  replace hB := bstep hB hb
  clear hb
  go_wp2_with fail
  exact bodyPost_ret (results_tmp2 rfl _ _ _) rfl ⟨rfl, hB⟩
set_option maxRecDepth 100000 in
set_option maxHeartbeats 4000000 in
theorem ve_Side_err2 (n0 n1 n2 c a0 a1 a2 : ByteArray) (w : World) (hE : Env w)
    (h1 : ∀ w, Env w → Calls Tryz.prog 89 #[.agg #[.string n0, .string n1, .string n2, .string c]] w fun e w' => e = .returned (.int .i64 0) ∧ Below w.heap.size w w')
    (h2 : ∀ w, Env w → Calls Tryz.prog 32 #[.agg #[.string a0, .string a1, .string a2]] w fun e w' => e = .returned (.bool false) ∧ Below w.heap.size w w') :
    Calls Tryz.prog 34 #[.agg #[.string n0, .string n1, .string n2, .string c], .agg #[.string a0, .string a1, .string a2]] w fun e w' => e = .returned (.tuple #[.int .i64 0, .int .i64 1]) ∧ Below w.heap.size w w' := by
  have HL := Lib.hid h1
  have HV := Lib.hid h2
  have HE := Lib.hid hE
  clear hE h1 h2
  go_enter Tryz.func34, Tryz.ntmps34
  go_wp2_with fail
  generalize hW : (World.alloc w _).alloc _ = W
  obtain ⟨hB, hsz, R2, R3⟩ := A2 hW
  have R2 := Lib.hid R2
  have R3 := Lib.hid R3
  clear hW hsz
  refine (HL.out _ (HE.out.below hB)).mono ?_
  rintro e w1 ⟨rfl, hb⟩
  replace hB := bstep hB hb
  have R2 := Lib.hid (keep hb R2.out)
  have R3 := Lib.hid (keep hb R3.out)
  clear hb
  obtain ⟨R3c0, R3c1, R3c2, R3f0, R3f1, R3f2⟩ := row3 R3.out
  go_wp2_with fail
  clear R3c0 R3c1 R3c2 R3f0 R3f1 R3f2
  refine (HV.out _ (HE.out.below hB)).mono ?_
  rintro e w2 ⟨rfl, hb⟩
  replace hB := bstep hB hb
  clear hb
  go_wp2_with fail
  exact bodyPost_ret (results_tmp2 rfl _ _ _) rfl ⟨rfl, hB⟩
def sres (ok : Bool) (z : Int) : Int := if ok = true then z else 0
theorem ve_SideA (p : ByteArray × ByteArray × ByteArray) (q : ByteArray) (s : ByteArray × ByteArray × ByteArray) (w : World) (hE : Env w) (hp : Sh20 p) (hq : q.size ≤ 20) (hs : Sh20 s) :
    Calls Tryz.prog 34 #[tpW p q, txW s] w fun e w' => e = .returned (.tuple #[.int .i64 (sres (pokB p q && vvB s) (cmpQ (hgt (vvX p) (rvX q) (vvX s)) 0)), .int .i64 (eres (pokB p q && vvB s))]) ∧ Below w.heap.size w w' := by
  have hL := fun w hE => ve_planeA p q w hE hp hq
  have hv := fun w hE => ve_ValidA s w hE hs
  cases h1 : pokB p q with
  | false =>
    rw [h1] at hL
    exact ve_Side_err1 _ _ _ _ _ _ _ w hE hL
  | true =>
    rw [h1] at hL
    cases h2 : vvB s with
    | false =>
      rw [h2] at hv
      exact ve_Side_err2 _ _ _ _ _ _ _ w hE hL hv
    | true =>
      obtain ⟨e1, e2, e3⟩ := pok_rs h1
      have e4 := vv_text h2
      have := ve_Side (vvX p) (rvX q) (vvX s) w hE ((szV_text hp).mono (by decide)) ((sz_rvX hq (by decide) : Sz 21 (rvX q)).mono (by decide)) ((szV_text hs).mono (by decide)) e3
      unfold vV pV at this
      unfold txW tpW
      rw [show p.1 = rs (vvX p).x from congrArg Prod.fst e1, show p.2.1 = rs (vvX p).y from congrArg (fun q => q.2.1) e1, show p.2.2 = rs (vvX p).z from congrArg (fun q => q.2.2) e1, show s.1 = rs (vvX s).x from congrArg Prod.fst e4, show s.2.1 = rs (vvX s).y from congrArg (fun q => q.2.1) e4, show s.2.2 = rs (vvX s).z from congrArg (fun q => q.2.2) e4, show (Value.string q) = .string (rs (rvX q)) from congrArg Value.string e2]
      exact this

/-! Through. -/
def tcode (v z : Bool) : Int := if v = true then (if z = true then 16 else 0) else 1
def tres (v z : Bool) (n : V3) (c : Rat) : Value := if (v && !z) = true then pV n c else e4W
theorem ve_ThroughA (s t u : ByteArray × ByteArray × ByteArray) (w : World) (hE : Env w) (hs : Sh20 s) (ht : Sh20 t) (hu : Sh20 u) :
    Calls Tryz.prog 36 #[txW s, txW t, txW u] w fun e w' => e = .returned (.tuple #[tres (vvB s && vvB t && vvB u) (zero3 (nrm (vvX s) (vvX t) (vvX u))) (nrm (vvX s) (vvX t) (vvX u)) (dotV (nrm (vvX s) (vvX t) (vvX u)) (vvX s)), .int .i64 (tcode (vvB s && vvB t && vvB u) (zero3 (nrm (vvX s) (vvX t) (vvX u))))]) ∧ Below w.heap.size w w' := by
  cases hv : (vvB s && vvB t && vvB u) with
  | false => exact ve_Through_bad _ _ _ _ _ _ _ _ _ w hE (sh20_V hs) (sh20_V ht) (sh20_V hu) (by rw [chk3_eq]; show eres (vvB s && vvB t && vvB u) = 1; rw [hv]; rfl)
  | true =>
    rw [Bool.and_eq_true, Bool.and_eq_true] at hv
    have es := vv_text hv.1.1
    have et := vv_text hv.1.2
    have eu := vv_text hv.2
    have za := szV_text hs
    have zb := szV_text ht
    have zc := szV_text hu
    unfold txW
    rw [show s.1 = rs (vvX s).x from congrArg Prod.fst es, show s.2.1 = rs (vvX s).y from congrArg (fun q => q.2.1) es, show s.2.2 = rs (vvX s).z from congrArg (fun q => q.2.2) es, show t.1 = rs (vvX t).x from congrArg Prod.fst et, show t.2.1 = rs (vvX t).y from congrArg (fun q => q.2.1) et, show t.2.2 = rs (vvX t).z from congrArg (fun q => q.2.2) et, show u.1 = rs (vvX u).x from congrArg Prod.fst eu, show u.2.1 = rs (vvX u).y from congrArg (fun q => q.2.1) eu, show u.2.2 = rs (vvX u).z from congrArg (fun q => q.2.2) eu]
    clear es et eu hv hs ht hu
    generalize vvX s = a at *
    generalize vvX t = b at *
    generalize vvX u = c at *
    cases h0 : zero3 (nrm a b c) with
    | false =>
      have := ve_Through a b c w hE (za.mono (by decide)) (zb.mono (by decide)) (zc.mono (by decide)) h0
      unfold vV at this
      exact this
    | true =>
      have hn := szV_nrm za zb zc
      have hz : dotV (nrm a b c) a = dotV (nrm a b c) a := rfl
      refine ve_Through_flat _ _ _ _ _ _ _ _ _ (rs (subV b a).x) (rs (subV b a).y) (rs (subV b a).z) (rs (subV c a).x) (rs (subV c a).y) (rs (subV c a).z) (rs (nrm a b c).x) (rs (nrm a b c).y) (rs (nrm a b c).z) (rs (dotV (nrm a b c) a)) w hE (sh_of za (by decide)) (sh_of zb (by decide)) (sh_of zc (by decide)) (chk3_rs a b c)
        (fun w hE => zip_sub b a w hE (zb.mono (by decide)) (za.mono (by decide))) (fun w hE => zip_sub c a w hE (zc.mono (by decide)) (za.mono (by decide)))
        (fun w hE => ve_cross (subV b a) (subV c a) w hE ((szV_sub zb za).mono (by decide)) ((szV_sub zc za).mono (by decide)))
        (fun w hE => ve_dot (nrm a b c) a w hE (hn.mono (by decide)) (za.mono (by decide))) ?_
      intro w hE
      have h := ve_plane_rs (nrm a b c) (dotV (nrm a b c) a) w hE (hn.mono (by decide)) ((sz_dot hn (za.mono (by decide))).mono (by decide))
      rw [h0] at h
      exact h

/-! Crossing. -/
/-- Are both ends on the same side? -/
def sameS (n : V3) (c : Rat) (a b : V3) : Bool := (decide (0 < cmpQ (hgt n c a) 0)) == (decide (0 < cmpQ (hgt n c b) 0))
def ccode (v z : Bool) : Int := if v = true then (if z = true then 11 else 0) else 1
def cres (v z : Bool) (x : V3) : Value := if (v && !z) = true then vV x else e3W
theorem same_ne {n : V3} {c : Rat} {a b : V3} (h : sameS n c a b = false) : hgt n c a - hgt n c b ≠ 0 := by
  intro e
  have e2 : hgt n c a = hgt n c b := by grind
  unfold sameS at h
  rw [e2] at h
  simp at h
theorem ve_CrossingA (p : ByteArray × ByteArray × ByteArray) (q : ByteArray) (s t : ByteArray × ByteArray × ByteArray) (w : World) (hE : Env w) (hp : Sh20 p) (hq : q.size ≤ 20) (hs : Sh20 s) (ht : Sh20 t) :
    Calls Tryz.prog 38 #[tpW p q, txW s, txW t] w fun e w' => e = .returned (.tuple #[cres (pokB p q && (vvB s && vvB t)) (sameS (vvX p) (rvX q) (vvX s) (vvX t)) (crs (vvX p) (rvX q) (vvX s) (vvX t)), .int .i64 (ccode (pokB p q && (vvB s && vvB t)) (sameS (vvX p) (rvX q) (vvX s) (vvX t)))]) ∧ Below w.heap.size w w' := by
  have hL := fun w hE => ve_planeA p q w hE hp hq
  cases h1 : pokB p q with
  | false =>
    rw [h1] at hL
    exact ve_Crossing_bad1 _ _ _ _ _ _ _ _ _ _ w hE hL
  | true =>
    rw [h1] at hL
    cases h2 : (vvB s && vvB t) with
    | false => exact ve_Crossing_bad2 _ _ _ _ _ _ _ _ _ _ w hE (sh20_V hs) (sh20_V ht) (by rw [chk2_eq]; show eres (vvB s && vvB t) = 1; rw [h2]; rfl) hL
    | true =>
      obtain ⟨e1, e2, e3⟩ := pok_rs h1
      rw [Bool.and_eq_true] at h2
      have es := vv_text h2.1
      have et := vv_text h2.2
      have zn := szV_text hp
      have zc : Sz 21 (rvX q) := sz_rvX hq (by decide)
      have za := szV_text hs
      have zb := szV_text ht
      unfold txW tpW at *
      rw [show p.1 = rs (vvX p).x from congrArg Prod.fst e1, show p.2.1 = rs (vvX p).y from congrArg (fun q => q.2.1) e1, show p.2.2 = rs (vvX p).z from congrArg (fun q => q.2.2) e1, show s.1 = rs (vvX s).x from congrArg Prod.fst es, show s.2.1 = rs (vvX s).y from congrArg (fun q => q.2.1) es, show s.2.2 = rs (vvX s).z from congrArg (fun q => q.2.2) es, show t.1 = rs (vvX t).x from congrArg Prod.fst et, show t.2.1 = rs (vvX t).y from congrArg (fun q => q.2.1) et, show t.2.2 = rs (vvX t).z from congrArg (fun q => q.2.2) et, show (Value.string q) = .string (rs (rvX q)) from congrArg Value.string e2]
      rw [show p.1 = rs (vvX p).x from congrArg Prod.fst e1, show p.2.1 = rs (vvX p).y from congrArg (fun q => q.2.1) e1, show p.2.2 = rs (vvX p).z from congrArg (fun q => q.2.2) e1, show (Value.string q) = .string (rs (rvX q)) from congrArg Value.string e2] at hL
      clear e1 e2 es et h1 h2 hp hq hs ht
      generalize vvX p = n at *
      generalize rvX q = c at *
      generalize vvX s = a at *
      generalize vvX t = b at *
      cases h0 : sameS n c a b with
      | false => exact ve_Crossing n c a b w hE (zn.mono (by decide)) (zc.mono (by decide)) (za.mono (by decide)) (zb.mono (by decide)) e3 h0 (same_ne h0)
      | true =>
        have h1 := sz_hgt zn zc za
        have h2 := sz_hgt zn zc zb
        exact ve_Crossing_same _ _ _ _ _ _ _ _ _ _ _ _ _ _ w hE (sh_of za (by decide)) (sh_of zb (by decide)) (chk2_rs a b) h0 hL
          (fun w hE => ve_height n c a w hE (zn.mono (by decide)) (zc.mono (by decide)) (za.mono (by decide))) (fun w hE => ve_height n c b w hE (zn.mono (by decide)) (zc.mono (by decide)) (zb.mono (by decide)))
          (fun w hE => ve_sign (hgt n c a) w hE (h1.mono (by decide))) (fun w hE => ve_sign (hgt n c b) w hE (h2.mono (by decide)))
end Go.Proofs.YtgbabmkclojgeaaGreatDoor

/- Worlds that agree with an earlier one on all its blocks but two: what a region keeps while it draws its order. -/
namespace Go.Proofs.YtgbabmkclojgeaaGreatDoor
open Go.RowKit Go.Shelf Go.Sort

/-- Of V's blocks none has turned but perhaps the blocks g and h. -/
structure Ap (g h : Nat) (V w : World) : Prop where
  size : V.heap.size ≤ w.heap.size
  block : ∀ k, k < V.heap.size → k ≠ g → k ≠ h → w.heap[k]? = V.heap[k]?
theorem Ap.refl (g h : Nat) (V : World) : Ap g h V V := ⟨Nat.le_refl _, fun _ _ _ _ => rfl⟩
theorem Ap.of_below {g h : Nat} {V w : World} (hb : Below V.heap.size V w) : Ap g h V w := ⟨hb.size, fun k hk _ _ => hb.block k hk⟩
theorem Ap.drew {g h : Nat} {V w : World} (ha : Ap g h V w) : Ap g h V w.drew := ⟨ha.size, ha.block⟩
theorem Ap.alloc {g h : Nat} {V w : World} {o : Obj} (ha : Ap g h V w) : Ap g h V (w.alloc o) :=
  ⟨by have := ha.size; rw [World.size_alloc]; omega, fun k hk h1 h2 => (Below.heap_alloc w o k (by have := ha.size; omega)).trans (ha.block k hk h1 h2)⟩
theorem Ap.setN {g h b i : Nat} {V w : World} {x : Value} (hb : V.heap.size ≤ b) (ha : Ap g h V w) : Ap g h V (w.setCell ⟨b, i, none⟩ x) :=
  ⟨by have := ha.size; simpa [World.setCell] using this, fun k hk h1 h2 => (Below.heap_setCell w ⟨b, i, none⟩ x k (by show k ≠ b; omega)).trans (ha.block k hk h1 h2)⟩
theorem Ap.set1 {g h i : Nat} {V w : World} {x : Value} (ha : Ap g h V w) : Ap g h V (w.setCell ⟨g, i, none⟩ x) :=
  ⟨by have := ha.size; simpa [World.setCell] using this, fun k hk h1 h2 => (Below.heap_setCell w ⟨g, i, none⟩ x k h1).trans (ha.block k hk h1 h2)⟩
theorem Ap.set2 {g h i : Nat} {V w : World} {x : Value} (ha : Ap g h V w) : Ap g h V (w.setCell ⟨h, i, none⟩ x) :=
  ⟨by have := ha.size; simpa [World.setCell] using this, fun k hk h1 h2 => (Below.heap_setCell w ⟨h, i, none⟩ x k h2).trans (ha.block k hk h1 h2)⟩
theorem Ap.row {g h k : Nat} {V w : World} {o : Obj} (ha : Ap g h V w) (hr : V.heap[k]? = some o) (h1 : k ≠ g) (h2 : k ≠ h) : w.heap[k]? = some o := (ha.block k (lt_of_row hr) h1 h2).trans hr
theorem Ap.rowV {k : Nat} {V w : World} {o : Obj} (ha : Ap V.heap.size V.heap.size V w) (hr : V.heap[k]? = some o) : w.heap[k]? = some o := ha.row hr (by have := lt_of_row hr; omega) (by have := lt_of_row hr; omega)
/-- Blocks that were laid ahead of a call. -/
theorem one_new {Y wq : World} {o : Obj} (hb : Below (Y.alloc o).heap.size (Y.alloc o) wq) : wq.heap[Y.heap.size]? = some o := keep hb (heap_alloc_new _ _)
theorem two_new {Y wq : World} {o o' : Obj} (hb : Below ((Y.alloc o).alloc o').heap.size ((Y.alloc o).alloc o') wq) : wq.heap[Y.heap.size]? = some o ∧ wq.heap[Y.heap.size + 1]? = some o' := by
  obtain ⟨_, _, h1, h2⟩ := A2 (w := Y) (a := o) (b := o') rfl
  exact ⟨keep hb h1, keep hb h2⟩
theorem one_newD {Y wq : World} {o : Obj} (hb : Below (Y.alloc o).drew.heap.size (Y.alloc o).drew wq) : wq.heap[Y.heap.size]? = some o := keep hb (heap_alloc_new Y o)
theorem two_newD {Y wq : World} {o o' : Obj} (hb : Below ((Y.alloc o).alloc o').drew.heap.size ((Y.alloc o).alloc o').drew wq) : wq.heap[Y.heap.size]? = some o ∧ wq.heap[Y.heap.size + 1]? = some o' := by
  obtain ⟨_, _, h1, h2⟩ := A2 (w := Y) (a := o) (b := o') rfl
  exact ⟨keep hb h1, keep hb h2⟩
theorem two_row {Y : World} {o o' : Obj} : ((Y.alloc o).alloc o').heap[Y.heap.size]? = some o := (A2 (w := Y) (a := o) (b := o') rfl).2.2.1
theorem two_row' {Y : World} {o o' : Obj} : ((Y.alloc o).alloc o').heap[Y.heap.size + 1]? = some o' := (A2 (w := Y) (a := o) (b := o') rfl).2.2.2
theorem old1a {W : World} {g : Nat} {o o' : Obj} (h : W.heap[g]? = some o) : (W.alloc o').heap[g]? = some o := keep (A1 rfl).1 h
end Go.Proofs.YtgbabmkclojgeaaGreatDoor
