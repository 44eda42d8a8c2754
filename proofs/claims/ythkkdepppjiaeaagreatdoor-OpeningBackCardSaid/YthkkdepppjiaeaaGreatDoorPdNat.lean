/- Walks of the program's package natural: divide, the long division. -/
import Derived.Test.YthkkdepppjiaeaaGreatDoorPcNat
import Derived.Lib.MinMax
import Derived.Deep.DeepCutAuto
import Derived.Deep.CutBlock
import Derived.Deep.Light
namespace Go.Proofs.YthkkdepppjiaeaaGreatDoor
open Go.RowKit

theorem Own.shape {w : World} {base : Nat} {v : Value} {l : List Int} (h : Own w base v l) (h0 : 0 < l.length) : ∃ g c, v = .slice (some ⟨g, 0, none⟩) l.length c ∧ OwnG w base g l.length c l ∧ c ≤ maxLen ∧ l.length ≤ c := by
  obtain ⟨h1, h2⟩ := h
  rcases h2 with ⟨_, h2⟩ | ⟨g, cap, cur, rfl, hb, hh, hn, hc, hs, ht⟩
  · omega
  · exact ⟨g, cap, rfl, ⟨rfl, h1, .inr ⟨g, cap, cur, rfl, hb, hh, hn, hc, hs, ht⟩⟩, hc, hn⟩
theorem OwnG.mono {w : World} {base base' g n c : Nat} {o : List Int} (h : OwnG w base g n c o) (hb : base' ≤ base) : OwnG w base' g n c o := by
  obtain ⟨rfl, h2⟩ := h
  exact ⟨rfl, Own.mono (l := o) h2 hb⟩

theorem OwnG.take {w : World} {base g n c : Nat} {o : List Int} (h : OwnG w base g n c o) (k : Nat) (hk : k ≤ n) : OwnG w base g k c (o.take k) := by
  obtain ⟨rfl, h2⟩ := h
  have h3 := Own.take (l := o) h2 k hk
  have hl : (o.take k).length = k := by simp; omega
  refine ⟨hl, ?_⟩
  unfold Own at h3
  rw [hl] at h3
  exact h3
/-- trim at a slice of the call's own. -/
theorem na_trimG {w : World} {base g n c : Nat} {o : List Int} (h : OwnG w base g n c o) :
    Calls Tryz.prog 242 #[.slice (some ⟨g, 0, none⟩) n c] w (fun e w' => e = .returned (.slice (some ⟨g, 0, none⟩) (trimL o).length c) ∧ w' = w) ∧ Own w base (.slice (some ⟨g, 0, none⟩) (trimL o).length c) (trimL o) := by
  obtain ⟨rfl, h2⟩ := h
  obtain ⟨A', c', e1, e2, e3, e4⟩ := Own.rd (l := o) h2
  simp only [Value.slice.injEq] at e1
  obtain ⟨rfl, _, rfl⟩ := e1
  exact ⟨na_trim _ c o w e2 e3 e4, Own.trim h2⟩

theorem mul_len {n F : Nat} (h0 : 1 ≤ F) (h1 : F ≤ 1000000000) : (ws (n * F)).length ≤ (ws n).length + 1 ∧ (ws n).length ≤ (ws (n * F)).length := by
  constructor
  · apply ws_len_iff.2
    have e1 := (ws_len_iff (n := n) (k := (ws n).length)).1 (Nat.le_refl _)
    rw [bpow_succ, Int.natCast_mul]
    have e3 := mulL (show (n : Int) + 1 ≤ bpow (ws n).length by omega) (show (0 : Int) ≤ F by omega)
    have e4 := mulL (show (F : Int) ≤ 1000000000 by omega) (show (0 : Int) ≤ bpow (ws n).length by omega)
    generalize bpow (ws n).length = P at *
    have e5 : (n : Int) * F = F * n := Int.mul_comm _ _
    have e6 : (F : Int) * P = P * F := Int.mul_comm _ _
    have e7 : (F : Int) * (n + 1) = F * n + F := by grind
    omega
  · apply (ws_can n).len_le (ws_can _)
    rw [ws_val, ws_val, Int.natCast_mul]
    have := mulL (show (1 : Int) ≤ F by omega) (show (0 : Int) ≤ n by omega)
    omega

theorem mul_lt2 {g v : Int} (h0 : 0 ≤ g) (h1 : g ≤ 1000000002) (v0 : 0 ≤ v) (v1 : v < 1000000000) : 0 ≤ g * v ∧ g * v ≤ 2000000000000000000 := by
  have a := Int.mul_nonneg h0 v0
  have b := Int.mul_le_mul h1 (show v ≤ 1000000000 by omega) v0 (by omega)
  omega

/-- What lies where, ahead of the loop. -/
theorem dw_start {w w3 w4 w5 w6 w7 : World} {vf vu vv v' : Value} {f u v : List Int} {X : Obj} (h3 : Below w.heap.size w w3) (hf : Own w4 w3.heap.size vf f) (hb4 : Below w3.heap.size w3 w4) (hf0 : 0 < f.length)
    (hu : Own w5 w4.heap.size vu u) (hb5 : Below w4.heap.size w4 w5) (hv' : w6.ownsRow w4.heap.size 101 1 v' (u.length + 1) (u.map (Value.int .u32) ++ [.int .u32 0])) (hg : (w5.alloc X).grownBy w6 vu.ownBlock)
    (hvv : Own w7 w6.heap.size vv v) (hb7 : Below w6.heap.size w6 w7) (hv0 : 0 < v.length) :
    ∃ gf gu gv cf cu cv, vf = .slice (some ⟨gf, 0, none⟩) f.length cf ∧ v' = .slice (some ⟨gu, 0, none⟩) (u.length + 1) cu ∧ vv = .slice (some ⟨gv, 0, none⟩) v.length cv ∧
      (cu ≤ maxLen ∧ u.length + 1 ≤ cu ∧ cf ≤ maxLen ∧ cv ≤ maxLen ∧ f.length ≤ cf ∧ v.length ≤ cv) ∧
      ∀ w8 Q, w8.ownsRow w7.heap.size 101 1 (.slice (some ⟨w7.heap.size, 0, none⟩) Q Q) Q (madeCells (Value.int .u32 0).cells (Q * 1)).toList → w7.grownBy w8 none →
        DW w w8 gf gu gv w7.heap.size cf cu cv (u.length + 1) v.length Q f (u ++ [0]) v (List.replicate Q 0) := by
  have hO := Own.app hu hb5 hb5.size hv' hg
  obtain ⟨gf, cf, rfl, F1, F2, F3⟩ := hf.shape hf0
  have hlen : (u ++ [(0 : Int)]).length = u.length + 1 := by simp
  obtain ⟨gu, cu, rfl, U1, U2, U3⟩ := hO.1.shape (by omega)
  rw [hlen] at U1 U3
  obtain ⟨gv, cv, rfl, V1, V2, V3⟩ := hvv.shape hv0
  have s4 := hb4.size
  have s3 := h3.size
  have s6 := hO.2.size
  have s7 := hb7.size
  have f1 := F1.lt
  have u1 := U1.lt
  have v1 := V1.lt
  refine ⟨gf, gu, gv, cf, cu, cv, rfl, by rw [hlen], rfl, ⟨U2, U3, F2, V2, F3, V3⟩, fun w8 Q hq hg8 => ?_⟩
  have hb8 : Below w7.heap.size w7 w8 := (Below.refl _ _).grown hg8 (Nat.le_refl _) (fun k hk => by cases hk)
  have hb78 : Below w6.heap.size w6 w8 := below_seq hb7 hb8
  refine ⟨?_, ?_, ?_, ?_, ?_, by omega, by omega, by omega⟩
  · exact ((F1.below hO.2).below hb78).mono s3
  · exact (U1.below hb78).mono (by omega)
  · exact (V1.below hb8).mono (by omega)
  · exact (OwnG.made hq).mono (by omega)
  · exact below_seq (below_seq (below_seq h3 hb4) hO.2) hb78

set_option maxRecDepth 100000 in
set_option maxHeartbeats 8000000 in
theorem na_divide_long (va vb : Value) (n m : Nat) (w : World) (hA : Rd w va (ws n)) (hB : Rd w vb (ws m)) (hle : m ≤ n) (hl : (ws n).length ≤ 300000000) (h2 : ¬ (ws n).length ≤ 2) (h1 : 2 ≤ (ws m).length) :
    Calls Tryz.prog 248 #[va, vb] w (DivPost n m w) := by
  have hcmp := Lib.hid (na_compareB va vb n m w hA hB)
  have hneg : ¬ cmpI (n : Int) m < 0 := fun h => by have := cmpI_neg.1 h; omega
  have SA := fun W hW => na_smallB va n W hW (by omega)
  simp only [if_neg h2, decide_eq_false h2] at SA
  have SA := Lib.hid SA
  have hlm : (ws m).length ≤ (ws n).length := (ws_can m).len_le (ws_can n) (by rw [ws_val, ws_val]; omega)
  have SB := fun W hW => na_smallB vb m W hW (by omega)
  have RA := Lib.hid hA
  have RB := Lib.hid hB
  obtain ⟨A, c, rfl, a1, a2, -⟩ := hA
  unfold maxLen at a2
  obtain ⟨K, hK⟩ : ∃ K, (ws m).length = K := ⟨_, rfl⟩
  obtain ⟨t, ht⟩ : ∃ t, t = (ws m)[K - 1]?.getD 0 := ⟨_, rfl⟩
  have hnorm := norm_div (n := m) (k := K - 1) (by omega) (f := 1000000000 / (t + 1)) (by rw [ht])
  obtain ⟨F, hF⟩ : ∃ F : Nat, 1000000000 / (t + 1) = (F : Int) := Int.eq_ofNat_of_zero_le (by have := hnorm.1; omega)
  rw [hF, Int.toNat_natCast, show K - 1 + 1 = K by omega] at hnorm
  have HN := Lib.hid hnorm
  have gt := (ws_can m).1.getD (K - 1)
  rw [List.getD_eq_getElem?_getD, ← ht] at gt
  obtain ⟨B, d, rfl, b1, b2, b3⟩ := hB
  obtain ⟨b, rfl, hc⟩ := b3.at_ (by omega)
  have hc0 := hc (K - 1) (by omega)
  rw [← ht] at hc0
  have C0 := Lib.hid hc0
  have hlt := World.block_lt_of_cell? w _ hc0
  have HF := Lib.hid hF
  have gt0 := gt.1
  have gt1 := gt.2
  have HK := Lib.hid hK
  unfold maxLen at b2
  rw [hK] at hcmp SB b1 ⊢
  have hKn : K ≤ 300000000 := by omega
  have hK2 : 2 ≤ K := by omega
  generalize (if K ≤ 2 then (m : Int) else 0) = yy at SB
  generalize decide (K ≤ 2) = ok at SB
  have SB := Lib.hid SB
  obtain ⟨i0, hi, hz0, hz1, hz2⟩ := info_parts inf32
  have HI := Lib.hid (And.intro hi (And.intro hz0 (And.intro hz1 hz2)))
  generalize cmpI (n : Int) m = x at *
  have hKln : K ≤ (ws n).length := by omega
  clear h2 h1 b3 hc hc0 ht hnorm gt hF hK hi hz0 hz1 hz2 hlm
  have k1 : ((K : Int) == 1) = false := by rw [beq_eq_false_iff_ne]; omega
  go_enter Tryz.func248, Tryz.ntmps248
  go_wp2_with fail
  refine hcmp.out.mono ?_
  rintro e w1 ⟨rfl, hb1⟩
  go_wp2_with fail
  refine (SA.out _ (RA.out.below hb1)).mono ?_
  rintro e w2 ⟨rfl, hb2'⟩
  have hb2 := below_seq hb1 hb2'
  clear hb2'
  go_wp2_with fail
  have hRB2 := RB.out.below hb2
  rw [HK.out] at hRB2
  refine (SB.out _ hRB2).mono ?_
  rintro e w3 ⟨rfl, hb3'⟩
  have hb3 := below_seq hb2 hb3'
  have hc0 := (hb3.cell hlt).trans C0.out
  clear hRB2 hb1 hb2 hb3'
  go_wp2_with fail
  rw [HF.out]
  have hF0 := HN.out.1
  have hF0' : 1 ≤ F := by omega
  have hF1 := HN.out.2.1
  refine (na_of F _ (by omega) (by omega)).mono ?_
  rintro e w4 ⟨vf, rfl, hf, hb4⟩
  rw [Int.toNat_natCast] at hf
  have HFo := Lib.hid hf
  have hb4' := below_seq hb3 hb4
  have hFl : (ws F).length ≤ 1 := ws_len_iff.2 (by have : bpow 1 = 1000000000 := by decide
                                                   omega)
  have HFl := Lib.hid hFl
  have RF := Lib.hid hf.rd
  clear hf hc0 hFl
  go_wp2_with fail
  have hla := Lib.hid (ws_can n)
  refine (na_times _ vf n F w4 (RA.out.below hb4') RF.out (by omega) (Nat.le_trans HFl.out (by omega))).mono ?_
  rintro e w5 ⟨vu, rfl, hu, hb5⟩
  have HU := Lib.hid hu
  have hml := mul_len (n := n) (F := F) hF0' (by omega)
  have hul : (ws (n * F)).length ≤ 400000000 := by omega
  have hug := hml.2
  clear hml
  have hb5' := below_seq hb4' hb5
  clear hu
  obtain ⟨LU, hLU⟩ : ∃ LU, LU = (ws (n * F)).length := ⟨_, rfl⟩
  rw [← hLU] at hul hug
  have HLU := Lib.hid hLU
  clear hLU
  go_wp2_with (at_builtin; refine wpList_append_own _ rfl (.tmp 83) (.tmp 84) 274 rfl w4.heap.size 101 i0 (.int .u32 0) 1 4 Tryz.underlying274 HI.out.1 HI.out.2.1 HI.out.2.2.1 HI.out.2.2.2 rfl (by decide) _ _ _ rfl (World.ownsRow.alloc HU.out _) ⟨w5.heap.size, 0, none⟩ 1 1 [.int .u32 0] rfl rfl (one_cell _ _ _) (fun u hu => by rw [List.mem_singleton] at hu; subst hu; rfl) (by rw [← HLU.out]; unfold maxLen; omega) (by rw [← HLU.out]; omega) (by have := hb5.size; simp; omega) ?_; intro v' w6 hown hgrow _)
  have hb6 := Lib.hid (Own.app HU.out hb5 hb5.size hown hgrow).2
  have HV' := Lib.hid hown
  have HG' := Lib.hid hgrow
  have RF6 := Lib.hid (RF.out.below hb6.out)
  have RB6 := RB.out.below (below_seq hb4' hb6.out)
  rw [HK.out] at RB6
  have ht := na_times _ vf m F w6 RB6 RF6.out (by rw [HK.out]; omega) (Nat.le_trans HFl.out (by omega))
  have HT := Lib.hid ht
  clear hown hgrow RB6 ht
  refine HT.out.mono ?_
  rintro e w7 ⟨vv, rfl, hv, hb7⟩
  have HVV := Lib.hid hv
  have HB7 := Lib.hid hb7
  clear hv HT
  have HFl0 : Hid (0 < (ws F).length) := Lib.hid (by
    rcases Nat.eq_zero_or_pos (ws F).length with e | e
    · have := ws_nil_iff.1 (List.eq_nil_of_length_eq_zero e); omega
    · exact e)
  obtain ⟨gf, gu, gv, cf, cu, cv, rfl, rfl, rfl, hcc, hdw⟩ := dw_start hb3 HFo.out hb4 HFl0.out HU.out hb5 HV'.out HG'.out HVV.out HB7.out (by rw [HN.out.2.2.1]; omega)
  rw [← HLU.out, HN.out.2.2.1] at hdw hcc
  have HDW := Lib.hid hdw
  unfold maxLen at hcc
  have c1 := hcc.1; have c2 := hcc.2.1; have c3 := hcc.2.2.1; have c4 := hcc.2.2.2.1; have c5 := hcc.2.2.2.2.1; have c6 := hcc.2.2.2.2.2
  have hne : (((ws (n * F)).length : Int) + 1 == (ws n).length) = false := by rw [← HLU.out, beq_eq_false_iff_ne]; omega
  rw [← HLU.out] at hne
  clear hdw hcc HU HV' HG' HVV hb5 hb6 RF6
  have HLS := Lib.hid (And.intro HN.out.2.2.1 HLU.out)
  rw [← HLU.out, HN.out.2.2.1]
  go_wp2_with (at_make; refine wpList_make_full _ rfl _ _ 274 rfl w7.heap.size 101 i0 (.int .u32 0) 1 Tryz.underlying274 HI.out.1 HI.out.2.1 HI.out.2.2.1 _ _ _ _ (LU + 1 - K) rfl rfl (by omega) (by omega) (by rw [HI.out.2.2.2]; omega) (by unfold maxLen; omega) (Nat.le_refl _) ?_; intro w8 hown8 hgrow8)
  have HD0 := Lib.hid (HDW.out w8 (LU + 1 - K) hown8 hgrow8)
  have HS0 := DivO.start (a := n * F) (b := m * F) (k := K - 1) (L := LU + 1) (by rw [HLS.out.1]; omega) (by rw [HLS.out.2]) (by omega)
  rw [show LU + 1 - (K - 1 + 1) = LU + 1 - K by omega] at HS0
  have HS0 := Lib.hid HS0
  have HVo := Lib.hid (ws_can (m * F)).1
  have HVl := Lib.hid HN.out.2.2.1
  have HVt := Lib.hid HN.out.2.2.2
  have hVp : 0 < wval (ws (m * F)) := by
    rw [ws_val]
    have : m ≠ 0 := by rintro rfl; have := HK.out; rw [ws_zero] at this; simp at this; omega
    have := Nat.mul_pos (show 0 < m by omega) (show 0 < F by omega)
    omega
  have HVp := Lib.hid hVp
  have HU0 : Hid ((ws (n * F) ++ [0]).length = LU + 1) := Lib.hid (by simp [HLS.out.2])
  clear HDW hown8 hgrow8 hVp HFo RF hb4 hb4' hcmp SA SB
  obtain ⟨qb, hqb⟩ : ∃ qb, qb = w7.heap.size := ⟨_, rfl⟩
  rw [← hqb] at HD0 ⊢
  clear hqb
  go_loopw [15] (fun jx wr => ∃ (jn : Nat) (u q : List Int), jn ≤ LU + 1 - K ∧ jx = .int .i64 ((jn : Int) - 1) ∧ Hid (DivO u q (ws (m * F)) (n * F : Nat) jn) ∧ Hid (u.length = LU + 1) ∧ Hid (q.length = LU + 1 - K) ∧
      Hid (DW w wr gf gu gv qb cf cu cv (LU + 1) K (LU + 1 - K) (ws F) u (ws (m * F)) q)) (fun jx _ => (intOf jx + 1).toNat)
  case atStart => exact ⟨LU + 1 - K, _, _, Nat.le_refl _, rfl, HS0, HU0, Lib.hid (by simp), HD0⟩
  case round =>
    obtain ⟨jn, u, q, hjn, rfl, HO, HUl, HQl, HW⟩ := hrel
    by_cases hj0 : 0 < jn
    · obtain ⟨j, rfl⟩ : ∃ j, jn = j + 1 := ⟨jn - 1, by omega⟩
      rw [show ((j + 1 : Nat) : Int) - 1 = (j : Int) from by omega]
      have hul : j + K < u.length := by have := HUl.out; omega
      have hld := lead_at HO.out.uok HVo.out HVl.out hK2 hul (HO.out.fit (by omega)) HVt.out
      have HZ := Lib.hid hld.2
      have HL := Lib.hid hld.1
      have cu0 := HW.out.U.cell (j + K) (by omega)
      have cu1 := HW.out.U.cell (j + K - 1) (by omega)
      have cv0 := HW.out.V.cell (K - 1) (by omega)
      clear hld
      generalize ha : u[j + K]?.getD 0 = ua at *
      generalize hb : u[j + K - 1]?.getD 0 = ub at *
      generalize hv1 : (ws (m * F))[K - 1]?.getD 0 = v1 at *
      have Ha := Lib.hid ha
      have Hb := Lib.hid hb
      have Hv1 := Lib.hid hv1
      clear ha hb hv1
      have l1 := HL.out.a0; have l2 := HL.out.b0; have l3 := HL.out.b1; have l4 := HL.out.v10; have l5 := HL.out.v11
      have l6 := HL.out.top
      have l7 : ua < 1000000000 := by
        have h1 := HL.out.v21
        omega
      clear l6
      have hne : (v1 != 0) = true := by rw [bne_iff_ne]; omega
      have GS := Lib.hid (Gs.start HL.out)
      have hq1 := GS.out.r0
      have hq2 : (ua * 1000000000 + ub) % v1 < 1000000000 := by
        have := Int.emod_lt_of_pos (ua * 1000000000 + ub) (show 0 < v1 by omega)
        omega
      have HQ2 := Lib.hid hq2
      clear hq1 hq2
      go_wp2
      go_quiet (fail)
      go_upto_region 19 with fail
      go_quiet (fail)
      go_upto_block 3 with fail
      go_cut [17] (fun gx wc => ∃ g : Int, gx = .int .u64 g ∧ Hid (Gf (wval (u.drop j)) (wval (ws (m * F))) g) ∧ Hid (DW w wc gf gu gv qb cf cu cv (LU + 1) K (LU + 1 - K) (ws F) u (ws (m * F)) q))
      case first =>
        clear cu0 cu1 cv0 SA SB HI HS0 HD0 HU0 RA RB C0 HF HK HFl hla HLU HFl0 HLS HUl HQl HN HO HZ a1 a2 b1 b2 hlt gt0 gt1 hKln k1 hneg hb3 hF0 hF0' hF1 hb5' hug hb7 HB7 c1 c2 c3 c4 c5 c6 hle hl
        go_wp2_with fail
        go_loopw [17, 18] (fun gx rx wc => ∃ g r : Int, gx = .int .u64 g ∧ rx = .int .u64 r ∧ Hid (r < 1000000000) ∧ Hid (Gs (wval (u.drop j)) (wval (ws (m * F))) ua ub v1 g r) ∧ Hid (DW w wc gf gu gv qb cf cu cv (LU + 1) K (LU + 1 - K) (ws F) u (ws (m * F)) q)) (fun _ rx _ => (1000000000 - intOf rx).toNat)
        case atStart => exact ⟨_, _, rfl, rfl, HQ2, GS, Lib.hid ((HW.out.drewN _).drewN _)⟩
        case round =>
          obtain ⟨g, r, rfl, rfl, hr, hG, hD⟩ := hrel
          have hr1 := hr.out
          have g0 := hG.out.g0
          have g1 := hG.out.g1
          have r0 := hG.out.r0
          have cv0 := hD.out.V.cell (K - 1) (by omega)
          have cv1 := hD.out.V.cell (K - 2) (by omega)
          have cu2 := hD.out.U.cell (j + K - 2) (by omega)
          rw [Hv1.out] at cv0
          have w1 := HL.out.v20
          have w2 := HL.out.v21
          have w3 := HL.out.c0
          have w4 := HL.out.c1
          have gv := mul_lt2 g0 g1 w1 w2
          generalize (ws (m * F))[K - 2]?.getD 0 = v2 at *
          generalize u[j + K - 2]?.getD 0 = c2 at *
          have gv0 := gv.1
          have gv1 := gv.2
          clear gv
          by_cases hg : 1000000000 ≤ g
          · have HA := Lib.hid (Gs.again HL.out hG.out hr.out (.inl hg))
            have hg1 := HA.out.2
            by_cases hr2 : 1000000000 ≤ r + v1
            · have HE := Lib.hid (Gs.stop HL.out HA.out.1 (.inr hr2))
              go_wp2
              go_quiet (fail)
              go_wp2
              go_meet
              case rel => exact ⟨_, rfl, HE, Lib.hid (hD.out.drewN _)⟩
            · have HR := Lib.hid (show r + v1 < 1000000000 by omega)
              go_wp2
              go_quiet (fail)
              go_wp2
              exact ⟨⟨_, _, rfl, rfl, HR, HA.out.1, Lib.hid (hD.out.drewN _)⟩, by simp [intOf]; omega⟩
          · have hgd : decide (1000000000 ≤ g) = false := by rw [decide_eq_false_iff_not]; omega
            by_cases ht : r * 1000000000 + c2 < g * v2
            · have HA := Lib.hid (Gs.again HL.out hG.out hr.out (.inr ht))
              have hg1 := HA.out.2
              by_cases hr2 : 1000000000 ≤ r + v1
              · have HE := Lib.hid (Gs.stop HL.out HA.out.1 (.inr hr2))
                go_wp2
                go_quiet (fail)
                go_wp2
                go_meet
                case rel => exact ⟨_, rfl, HE, Lib.hid (hD.out.drewN _)⟩
              · have HR := Lib.hid (show r + v1 < 1000000000 by omega)
                go_wp2
                go_quiet (fail)
                go_wp2
                exact ⟨⟨_, _, rfl, rfl, HR, HA.out.1, Lib.hid (hD.out.drewN _)⟩, by simp [intOf]; omega⟩
            · have HE := Lib.hid (Gs.stop HL.out hG.out (.inl ⟨by omega, by omega⟩))
              go_wp2
              go_quiet (fail)
              go_wp2
              go_meet
              case rel => exact ⟨_, rfl, HE, Lib.hid (hD.out.drewN _)⟩
      case rest =>
        obtain ⟨g, rfl, HG, HD⟩ := hcut
        clear cu0 cu1 cv0
        have g0 := HG.out.g0
        have g1 := HG.out.g1
        have HSS := Lib.hid (SubI.start (v := ws (m * F)) g j HO.out.uok)
        go_wp2
        go_loopw [19, 20, 181] (fun cx bx ix wb => ∃ (i : Nat) (u' : List Int) (cc bb : Int), i ≤ K ∧ ix = .int .i64 i ∧ cx = .int .i64 cc ∧ bx = .int .i64 bb ∧ Hid (SubI u u' (ws (m * F)) g j i cc bb) ∧ Hid (DW w wb gf gu gv qb cf cu cv (LU + 1) K (LU + 1 - K) (ws F) u' (ws (m * F)) q)) (fun _ _ ix _ => K - (intOf ix).toNat)
        case atStart => exact ⟨0, _, 0, 0, Nat.zero_le _, rfl, rfl, rfl, HSS, HD⟩
        case round =>
          obtain ⟨i, u', cc, bb, hi, rfl, rfl, rfl, HSI, HD2⟩ := hrel
          have s1 := HSI.out.c0
          have s2 := HSI.out.c1
          have s3 := HSI.out.b0
          by_cases hik : i < K
          · have cy := HD2.out.U.cell (i + j) (by omega)
            have fy := HD2.out.U.free (i + j)
            have cx := HD2.out.V.cell i hik
            have gx := HVo.out.getD i
            have gy := HSI.out.ok.getD (i + j)
            rw [List.getD_eq_getElem?_getD] at gx gy
            have gx0 := gx.1; have gx1 := gx.2; have gy0 := gy.1; have gy1 := gy.2
            have sf := sub_fit g0 g1 gx0 gx1 s1 s2
            have sf1 := sf.1; have sf2 := sf.2.1; have sf3 := sf.2.2.1; have sf4 := sf.2.2.2
            have ST : Hid (∀ r b' : Int, 0 ≤ r → r < 1000000000 → b' = 0 ∨ b' = 1 → r - 1000000000 * b' = u'[i + j]?.getD 0 - (g * (ws (m * F))[i]?.getD 0 + cc) % 1000000000 - bb →
                SubI u (u'.set (i + j) r) (ws (m * F)) g j (i + 1) ((g * (ws (m * F))[i]?.getD 0 + cc) / 1000000000) b') := Lib.hid (fun r b' h1 h2 h3 h4 => by
              have := HSI.out.step g0 g1 HVo.out (by rw [HVl.out]; exact hik) (by have := HUl.out; omega) h1 h2 h3 (by rw [Nat.add_comm j i]; exact h4)
              rwa [Nat.add_comm j i] at this)
            clear gx gy sf
            generalize (ws (m * F))[i]?.getD 0 = xx at *
            generalize u'[i + j]?.getD 0 = yy2 at *
            have hm0 : 0 ≤ (g * xx + cc) % 1000000000 := by omega
            have hm1 : (g * xx + cc) % 1000000000 < 1000000000 := by omega
            have s30 : 0 ≤ bb := by omega
            have s31 : bb ≤ 1 := by omega
            clear s3
            by_cases hd : yy2 - (g * xx + cc) % 1000000000 - bb < 0
            · have HN := Lib.hid (ST.out (yy2 - (g * xx + cc) % 1000000000 - bb + 1000000000) 1 (by omega) (by omega) (.inr rfl) (by omega))
              go_wp2
              exact ⟨⟨i + 1, _, _, 1, by omega, by simp, rfl, rfl, HN, Lib.hid (HD2.out.setU (i + j) _)⟩, by simp [intOf]; omega⟩
            · have HN := Lib.hid (ST.out (yy2 - (g * xx + cc) % 1000000000 - bb) 0 (by omega) (by omega) (.inl rfl) (by omega))
              go_wp2
              exact ⟨⟨i + 1, _, _, 0, by omega, by simp, rfl, rfl, HN, Lib.hid (HD2.out.setU (i + j) _)⟩, by simp [intOf]; omega⟩
          · obtain rfl : K = i := by omega
            have hlast := HSI.out.last HG.out HVl.out (by omega) HZ.out HVo.out
            rw [Ha.out] at hlast
            have cl := HD2.out.U.cell (j + K) (by omega)
            have fl := HD2.out.U.free (j + K)
            have cq := HD2.out.Q.cell j (by omega)
            have fq := HD2.out.Q.free j
            rw [HSI.out.rest (j + K) (Nat.le_refl _), Ha.out] at cl
            generalize q[j]?.getD 0 = oq at *
            have s30 : 0 ≤ bb := by omega
            have s31 : bb ≤ 1 := by omega
            clear s3
            rcases hlast with ⟨hl0, hle2⟩ | ⟨hl0, hle2⟩
            · have HR := HSI.out.round HO.out HG.out HVl.out (by omega) (by have := HQl.out; omega) (by rw [Ha.out]; exact hl0) hle2
              have HR := Lib.hid HR
              have la : ua - cc - bb ≤ 0 := by omega
              have lb : 0 ≤ ua - cc - bb := by omega
              have HL0 := Lib.hid hl0
              clear hl0 hle2
              go_wp2
              refine ⟨⟨j, u'.set (j + K) 0, q.set j g, by omega, rfl, HR, Lib.hid (by rw [List.length_set, HSI.out.len]; exact HUl.out), Lib.hid (by rw [List.length_set]; exact HQl.out), Lib.hid ?_⟩, by simp [intOf]⟩
              rw [show max (ua - cc - bb) 0 = 0 by omega]
              exact (HD2.out.setU (j + K) 0).setQ j g
            · have HL0 := Lib.hid hl0
              have la : ua - cc - bb < 0 := by omega
              have lb : -1 ≤ ua - cc - bb := by omega
              have HLE := Lib.hid hle2
              have HAS := Lib.hid (AddI.start (v := ws (m * F)) j HSI.out.ok)
              clear hl0 hle2 cq fq
              go_wp2
              obtain ⟨wo, rfl⟩ : ∃ wo : World, wo = wr := ⟨_, rfl⟩
              clear cl fl
              go_loopw [25, 236] (fun px ix wb => ∃ (i : Nat) (u2 : List Int) (p : Int), i ≤ K ∧ ix = .int .i64 i ∧ px = .int .u64 p ∧ Hid (AddI u' u2 (ws (m * F)) j i p) ∧ Hid (DW w wb gf gu gv qb cf cu cv (LU + 1) K (LU + 1 - K) (ws F) u2 (ws (m * F)) q)) (fun _ ix _ => K - (intOf ix).toNat)
              case atStart => exact ⟨0, _, 0, Nat.zero_le _, rfl, rfl, HAS, HD2⟩
              case round =>
                obtain ⟨i, u2, p, hi, rfl, rfl, HAI, HD3⟩ := hrel
                have p0 := HAI.out.p0
                have p1 := HAI.out.p1
                by_cases hik : i < K
                · have cy := HD3.out.U.cell (i + j) (by omega)
                  have fy := HD3.out.U.free (i + j)
                  have cx := HD3.out.V.cell i hik
                  have gx := HVo.out.getD i
                  have gy := HAI.out.ok.getD (i + j)
                  rw [List.getD_eq_getElem?_getD] at gx gy
                  have gx0 := gx.1; have gx1 := gx.2; have gy0 := gy.1; have gy1 := gy.2
                  have HN := HAI.out.step HVo.out (by rw [HVl.out]; exact hik) (by have := HUl.out; have := HSI.out.len; omega)
                  rw [Nat.add_comm j i] at HN
                  have HN := Lib.hid HN
                  clear gx gy
                  generalize (ws (m * F))[i]?.getD 0 = xx at *
                  generalize u2[i + j]?.getD 0 = yy2 at *
                  go_wp2
                  go_quiet (fail)
                  go_wp2
                  exact ⟨⟨i + 1, _, _, by omega, by simp, rfl, HN, Lib.hid ((HD3.out.drewN _).setU (i + j) _)⟩, by simp [intOf]; omega⟩
                · obtain rfl : K = i := by omega
                  have hlast := HSI.out.last HG.out HVl.out (by omega) HZ.out HVo.out
                  have hsum := AddI.last HSI.out HAI.out HG.out HVl.out (by omega) HZ.out HVo.out HLE.out
                  have HR := AddI.round HO.out HSI.out HAI.out HG.out HVl.out (by omega) (by have := HQl.out; omega) hsum HLE.out HVp.out HL.out.W0
                  have hgm := HR.2
                  have HR := Lib.hid HR.1
                  have cl := HD3.out.U.cell (j + K) (by omega)
                  have fl := HD3.out.U.free (j + K)
                  have cq := HD3.out.Q.cell j (by omega)
                  have fq := HD3.out.Q.free j
                  generalize u2[j + K]?.getD 0 = ou at *
                  generalize q[j]?.getD 0 = oq at *
                  rw [Ha.out] at hsum
                  have la2 : ua - cc - bb + p ≤ 0 := by omega
                  have lb2 : 0 ≤ ua - cc - bb + p := by omega
                  clear hsum hlast
                  go_wp2
                  refine ⟨⟨j, u2.set (j + K) 0, q.set j (g - 1), by omega, rfl, HR, Lib.hid (by rw [List.length_set, HAI.out.len, HSI.out.len]; exact HUl.out), Lib.hid (by rw [List.length_set]; exact HQl.out), Lib.hid ?_⟩, by simp [intOf]⟩
                  rw [show max (ua - cc - bb + p) 0 = 0 by omega]
                  exact (HD3.out.setU (j + K) 0).setQ j (g - 1)
    · obtain rfl : jn = 0 := by omega
      have hdone := HO.out.done (by omega)
      rw [HVl.out] at hdone
      have HDn := Lib.hid hdone
      have hFs := na_smallB (.slice (some ⟨gf, 0, none⟩) (ws F).length cf) F wr HW.out.F.own.rd (by have := HFl.out; omega)
      rw [if_pos (by have := HFl.out; omega), decide_eq_true (by have := HFl.out; omega)] at hFs
      have HFs := Lib.hid hFs
      have HRm : Hid (n % m * F / F = n % m) := Lib.hid (Nat.mul_div_cancel _ (by omega))
      have hrl : (ws (n % m * F)).length ≤ 1000000000 := by
        rw [← hdone.2]
        have := trimL_len (u.take K)
        simp at this
        omega
      clear hdone hFs
      go_wp2_with fail
      refine HFs.out.mono ?_
      rintro e w9 ⟨rfl, hb9⟩
      have HT := na_trimG ((HW.out.U.below hb9).take K (by omega))
      rw [HDn.out.2] at HT
      have HT9 := Lib.hid HT.1
      have RU := Lib.hid HT.2.rd
      have HQ9 := Lib.hid (HW.out.Q.below hb9)
      have hB9 := HW.out.B.trans (hb9.mono HW.out.B.size)
      clear HT hb9
      go_wp2_with fail
      refine HT9.out.mono ?_
      rintro e w10 ⟨rfl, rfl⟩
      go_wp2_with fail
      refine (na_by _ (n % m * F) F w10 RU.out hrl (by omega) (by omega)).mono ?_
      rintro e w11 ⟨r, r2, rfl, hr, -, hb11⟩
      rw [HRm.out] at hr
      have HR11 := Lib.hid hr.rd
      have HTq := na_trimG (HQ9.out.below hb11)
      rw [HDn.out.1] at HTq
      have HTa := Lib.hid HTq.1
      have HTb := Lib.hid HTq.2.rd
      have hB11 := below_seq hB9 hb11
      clear hr HTq hb11 HT9 RU HQ9
      go_wp2_with fail
      refine HTa.out.mono ?_
      rintro e w12 ⟨rfl, rfl⟩
      go_wp2
      go_ret2
      exact ⟨_, _, rfl, HTb.out, HR11.out, hB11⟩
end Go.Proofs.YthkkdepppjiaeaaGreatDoor
