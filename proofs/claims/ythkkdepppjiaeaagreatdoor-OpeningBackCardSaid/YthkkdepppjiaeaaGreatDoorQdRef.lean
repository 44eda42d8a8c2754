/- A PART OF THE PROOF, JOINED OUT OF 3 TEXTS. -/
import Derived.Test.YthkkdepppjiaeaaGreatDoorQcRef
import Derived.Deep.RegionHeld3
/- Walks of the reference of layer 1: Over. -/
namespace Go.Proofs.YthkkdepppjiaeaaGreatDoor
open Go.RowKit

theorem re_CmpB (va vb : Value) (a b : Nat) (w : World) (hA : Rd w va (ws a)) (hB : Rd w vb (ws b)) :
    Calls Tryz.prog 58 #[va, vb] w fun e w' => e = .returned (.int .i64 (cmpI a b)) ∧ Below w.heap.size w w' := by
  have := re_Cmp va vb (ws a) (ws b) w hA hB (ws_can a) (ws_can b)
  rw [ws_val, ws_val] at this
  exact this.mono fun e w' ⟨h1, n, h2⟩ => ⟨h1, by rw [h2]; exact below_drewN (Below.refl _ _) n⟩
/-- trim at a slice of the call's own. -/
theorem re_trimG {w : World} {base g n c : Nat} {o : List Int} (h : OwnG w base g n c o) :
    Calls Tryz.prog 97 #[.slice (some ⟨g, 0, none⟩) n c] w (fun e w' => e = .returned (.slice (some ⟨g, 0, none⟩) (trimL o).length c) ∧ w' = w) ∧ Own w base (.slice (some ⟨g, 0, none⟩) (trimL o).length c) (trimL o) := by
  obtain ⟨rfl, h2⟩ := h
  obtain ⟨A', c', e1, e2, e3, e4⟩ := Own.rd (l := o) h2
  simp only [Value.slice.injEq] at e1
  obtain ⟨rfl, _, rfl⟩ := e1
  exact ⟨re_trim _ c o w e2 e3 e4, Own.trim h2⟩

set_option maxRecDepth 100000 in
set_option maxHeartbeats 2000000 in
theorem re_Over_less (va vb : Value) (n m : Nat) (w : World) (hA : Rd w va (ws n)) (hB : Rd w vb (ws m)) (hlt : n < m) :
    Calls Tryz.prog 100 #[va, vb] w (DivPost n m w) := by
  have hcmp := Lib.hid (re_CmpB va vb n m w hA hB)
  have hneg : cmpI (n : Int) m < 0 := cmpI_neg.2 (by omega)
  have HA := Lib.hid hA
  have HE : Hid (n / m = 0 ∧ n % m = n) := Lib.hid ⟨Nat.div_eq_of_lt hlt, Nat.mod_eq_of_lt hlt⟩
  clear hA hB
  generalize cmpI (n : Int) m = x at *
  go_enter Tryz.func100, Tryz.ntmps100
  go_wp2_with fail
  refine hcmp.out.mono ?_
  rintro e w1 ⟨rfl, hb1⟩
  go_wp2
  go_ret2
  refine ⟨_, _, rfl, ?_, ?_, hb1⟩
  · rw [HE.out.1, ws_zero]; exact ⟨none, 0, rfl, Nat.le_refl _, by unfold maxLen; omega, Row.nil _ _⟩
  · rw [HE.out.2]; exact HA.out.below hb1

set_option maxRecDepth 100000 in
set_option maxHeartbeats 2000000 in
theorem re_Over_one (va vb : Value) (n m : Nat) (w : World) (hA : Rd w va (ws n)) (hB : Rd w vb (ws m)) (hle : m ≤ n) (hl : (ws n).length ≤ 400000000) (h1 : (ws m).length = 1) :
    Calls Tryz.prog 100 #[va, vb] w (DivPost n m w) := by
  have hcmp := Lib.hid (re_CmpB va vb n m w hA hB)
  have hneg : ¬ cmpI (n : Int) m < 0 := fun h => by have := cmpI_neg.1 h; omega
  obtain ⟨hm0, hm1, hm2⟩ := ws_one h1
  have RA := Lib.hid hA
  have HY := Lib.hid (fun W hW => re_small va n m W hW (by omega) hm2 (by omega))
  have hml : n % m < 4294967296 := by have := Nat.mod_lt n hm2; omega
  obtain ⟨B, d, rfl, b1, b2, b3⟩ := hB
  obtain ⟨b, rfl, hc⟩ := b3.at_ (by omega)
  have hc0 := hc 0 (by omega)
  rw [hm0] at hc0
  have C0 := Lib.hid hc0
  have hlt := World.block_lt_of_cell? w _ hc0
  clear hc hc0
  rw [h1] at hcmp ⊢
  clear hA h1 hm0 b3
  generalize cmpI (n : Int) m = x at *
  go_enter Tryz.func100, Tryz.ntmps100
  go_wp2_with fail
  refine hcmp.out.mono ?_
  rintro e w1 ⟨rfl, hb1⟩
  have hc0 := (hb1.cell hlt).trans C0.out
  go_wp2_with fail
  refine (HY.out _ (RA.out.below hb1)).mono ?_
  rintro e w2 ⟨q, rfl, hq, hb2⟩
  have HQ := Lib.hid hq
  have hB2 := below_seq hb1 hb2
  clear hq hc0
  go_wp2_with fail
  refine (re_Small ((n % m : Nat) : Int) _ (by omega) (by omega)).mono ?_
  rintro e w3 ⟨r, rfl, hr, hb3⟩
  rw [Int.toNat_natCast] at hr
  have HR := Lib.hid hr
  clear hr
  go_wp2
  go_ret2
  exact ⟨_, _, rfl, HQ.out.rd.below hb3, HR.out.rd, below_seq hB2 hb3⟩
end Go.Proofs.YthkkdepppjiaeaaGreatDoor

/- Walks of the reference of layer 1: Over, the long division. -/
namespace Go.Proofs.YthkkdepppjiaeaaGreatDoor
open Go.RowKit

theorem Own.appL {w wr w2 : World} {B : Nat} {v v' : Value} {o rs : List Int} (h : Own wr B v o) (hb : Below B w wr)
    (hown : w2.ownsRow B 101 1 v' (o.length + rs.length) (o.map (Value.int .u32) ++ rs.map (Value.int .u32))) (hg : wr.grownBy w2 v.ownBlock) (hs : B ≤ wr.heap.size) : Own w2 B v' (o ++ rs) ∧ Below B w w2 := by
  refine ⟨?_, hb.grown hg hs (fun k hk => (World.ownsRow.lt h k hk).1)⟩
  unfold Own
  rw [List.length_append, List.map_append]
  exact hown
theorem two_cells (w : World) (u v : Value) (e : TypeId) : ∀ j x, [u, v][j]? = some x → (w.alloc (.cells #[u, v] e)).cell? ((⟨w.heap.size, 0, none⟩ : Addr).add j) = some x := by
  intro j x hj
  match j, hj with
  | 0, hj => simp at hj; subst hj; simp [Addr.add]
  | 1, hj => simp at hj; subst hj; simp [Addr.add]
theorem Own.cellsAt {w : World} {base g c : Nat} {l : List Int} (h : Own w base (.slice (some ⟨g, 0, none⟩) l.length c) l) : ∀ j u, (l.map (Value.int .u32))[j]? = some u → w.cell? ((⟨g, 0, none⟩ : Addr).add j) = some u := by
  intro j u hu
  exact World.ownsRow.cells (w := w) (base := base) (e := 101) (size := 1) (v := .slice (some ⟨g, 0, none⟩) l.length c) (n := l.length) (xs := l.map (Value.int .u32)) h (g := g) rfl j u hu
theorem Own.empty (w : World) : Own (w.alloc (.cells #[] 101)) w.heap.size (.slice (some ⟨w.heap.size, 0, none⟩) 0 0) [] := by
  have := Own.new w [] (by simp [maxLen])
  exact this
theorem ew_start {w w1 w4 w5 w9 : World} {vf vv v2 : Value} {f u v : List Int} (h1 : Below w.heap.size w w1) (hf : Own w4 w1.heap.size vf f) (hb4 : Below w1.heap.size w1 w4) (hf0 : 0 < f.length)
    (hv : Own w5 w4.heap.size vv v) (hb5 : Below w4.heap.size w4 w5) (hv0 : 0 < v.length) (hu : Own w9 w5.heap.size v2 u) (hb9 : Below w5.heap.size w5 w9) (hu0 : 0 < u.length) :
    ∃ gf gu gv cf cu cv, vf = .slice (some ⟨gf, 0, none⟩) f.length cf ∧ v2 = .slice (some ⟨gu, 0, none⟩) u.length cu ∧ vv = .slice (some ⟨gv, 0, none⟩) v.length cv ∧
      (cu ≤ maxLen ∧ u.length ≤ cu ∧ cf ≤ maxLen ∧ cv ≤ maxLen ∧ f.length ≤ cf ∧ v.length ≤ cv) ∧ OwnG w9 w.heap.size gu u.length cu u ∧
      ∀ w10 L Q, L ≤ u.length → w10.ownsRow w9.heap.size 101 1 (.slice (some ⟨w9.heap.size, 0, none⟩) Q Q) Q (madeCells (Value.int .u32 0).cells (Q * 1)).toList → w9.grownBy w10 none →
        EW w w10 gf gu gv w9.heap.size cf cu cv L v.length Q f (u.take L) v (List.replicate Q 0) := by
  obtain ⟨gf, cf, rfl, F1, F2, F3⟩ := hf.shape hf0
  obtain ⟨gu, cu, rfl, U1, U2, U3⟩ := hu.shape hu0
  obtain ⟨gv, cv, rfl, V1, V2, V3⟩ := hv.shape hv0
  have s1 := h1.size
  have s4 := hb4.size
  have s5 := hb5.size
  have s9 := hb9.size
  have f1 := F1.lt
  have u1 := U1.lt
  have v1 := V1.lt
  refine ⟨gf, gu, gv, cf, cu, cv, rfl, rfl, rfl, ⟨U2, U3, F2, V2, F3, V3⟩, U1.mono (by omega), fun w10 L Q hL hq hg => ?_⟩
  have hb10 : Below w9.heap.size w9 w10 := (Below.refl _ _).grown hg (Nat.le_refl _) (fun k hk => by cases hk)
  refine ⟨?_, ?_, ?_, ?_, ?_, by omega, by omega, by omega, by omega, by omega⟩
  · exact (((F1.below hb5).below hb9).below hb10).mono s1
  · exact ((U1.below hb10).take L hL).mono (by omega)
  · exact ((V1.below hb9).below hb10).mono (by omega)
  · exact (OwnG.made hq).mono (by omega)
  · exact below_seq (below_seq (below_seq (below_seq h1 hb4) hb5) hb9) hb10

theorem grown_size {w w' : World} {b : Option Nat} (h : w.grownBy w' b) : w.heap.size ≤ w'.heap.size := h.size
theorem ws_trim_pad (n : Nat) : trimL (ws n ++ [0, 0]) = ws n := by
  rw [show ws n ++ [0, 0] = (ws n ++ [0]) ++ [0] by simp, trimL_snoc_zero, trimL_snoc_zero, trimL_can (ws_can n)]

set_option maxRecDepth 100000 in
set_option maxHeartbeats 8000000 in
theorem re_Over_long (va vb : Value) (n m : Nat) (w : World) (hA : Rd w va (ws n)) (hB : Rd w vb (ws m)) (hle : m ≤ n) (hl : (ws n).length ≤ 300000000) (h1 : 2 ≤ (ws m).length) :
    Calls Tryz.prog 100 #[va, vb] w (DivPost n m w) := by
  have hcmp := Lib.hid (re_CmpB va vb n m w hA hB)
  have hneg : ¬ cmpI (n : Int) m < 0 := fun h => by have := cmpI_neg.1 h; omega
  have hlm : (ws m).length ≤ (ws n).length := (ws_can m).len_le (ws_can n) (by rw [ws_val, ws_val]; omega)
  have RA := Lib.hid hA
  have RB := Lib.hid hB
  obtain ⟨A, c, rfl, a1, a2, -⟩ := hA
  unfold maxLen at a2
  obtain ⟨K, hK⟩ : ∃ K, (ws m).length = K := ⟨_, rfl⟩
  obtain ⟨t, ht⟩ : ∃ t, t = (ws m)[K - 1]?.getD 0 := ⟨_, rfl⟩
  have hnorm := norm_div (n := m) (k := K - 1) (by omega) (f := 1000000000 / (t + 1)) (by rw [ht])
  obtain ⟨F, hF⟩ : ∃ F : Nat, 1000000000 / (t + 1) = (F : Int) := Int.eq_ofNat_of_zero_le (by have := hnorm.1; omega)
  rw [hF, Int.toNat_natCast, show K - 1 + 1 = K by omega] at hnorm
  have HN := Lib.hid hnorm
  have q0 : 0 ≤ 1000000000 / (t + 1) := by rw [hF]; omega
  have q1 : 1000000000 / (t + 1) ≤ 500000000 := by rw [hF]; exact hnorm.2.1
  have gt := (ws_can m).1.getD (K - 1)
  rw [List.getD_eq_getElem?_getD, ← ht] at gt
  obtain ⟨B, d, rfl, b1, b2, b3⟩ := hB
  obtain ⟨b, rfl, hc⟩ := b3.at_ (by omega)
  have hc0 := hc (K - 1) (by omega)
  rw [← ht] at hc0
  have C0 := Lib.hid hc0
  have hlt := World.block_lt_of_cell? w _ hc0
  have HF := Lib.hid hF
  have gt0 := gt.1
  have gt1 := gt.2
  have HK := Lib.hid hK
  unfold maxLen at b2
  rw [hK] at hcmp b1 ⊢
  have hKn : K ≤ 300000000 := by omega
  have hK2 : 2 ≤ K := by omega
  obtain ⟨i0, hi, hz0, hz1, hz2⟩ := info_parts inf32
  have HI := Lib.hid (And.intro hi (And.intro hz0 (And.intro hz1 hz2)))
  generalize cmpI (n : Int) m = x at *
  obtain ⟨la, hla⟩ : ∃ la, (ws n).length = la := ⟨_, rfl⟩
  have HLA := Lib.hid hla
  rw [hla] at a1 hl ⊢
  have hKln : K ≤ la := by omega
  clear h1 b3 hc hc0 ht hnorm gt hF hK hi hz0 hz1 hz2 hlm hla
  have k1 : ((K : Int) == 1) = false := by rw [beq_eq_false_iff_ne]; omega
  go_enter Tryz.func100, Tryz.ntmps100
  go_wp2_with fail
  rw [HLA.out] at hcmp
  refine hcmp.out.mono ?_
  rintro e w1 ⟨rfl, hb1⟩
  have hc0 := (hb1.cell hlt).trans C0.out
  go_wp2_with fail
  rw [HF.out]
  have hF0 := HN.out.1
  have hF0' : 1 ≤ F := by omega
  have hF1 := HN.out.2.1
  refine (re_Small F _ (by omega) (by omega)).mono ?_
  rintro e w4 ⟨vf, rfl, hf, hb4⟩
  rw [Int.toNat_natCast] at hf
  have HFo := Lib.hid hf
  have HB1 := Lib.hid hb1
  have HB4 := Lib.hid hb4
  have hb14 := below_seq hb1 hb4
  have hFl : (ws F).length ≤ 1 := ws_len_iff.2 (by have : bpow 1 = 1000000000 := by decide
                                                   omega)
  have HFl := Lib.hid hFl
  have RF := Lib.hid hf.rd
  clear hf hc0 hFl q0 q1
  go_wp2_with fail
  have RB4 := RB.out.below hb14
  rw [HK.out] at RB4
  refine (re_Times _ vf m F w4 RB4 RF.out (by rw [HK.out]; omega) (Nat.le_trans HFl.out (by omega))).mono ?_
  rintro e w5 ⟨vv, rfl, hv, hb5⟩
  have HVV := Lib.hid hv
  have HB5 := Lib.hid hb5
  have hb15 := below_seq hb14 hb5
  have HEm := Lib.hid (Own.empty w5)
  have hb56 : Below w5.heap.size w5 (w5.alloc (.cells #[] 101)) := (Below.refl _ _).alloc (Nat.le_refl _) _
  have HB56 := Lib.hid hb56
  have RA6 := RA.out.below (below_seq hb15 hb56)
  rw [HLA.out] at RA6
  have RF6 := (RF.out.below hb5).below hb56
  have HT6 := Lib.hid (re_Times _ vf n F _ RA6 RF6 (by rw [HLA.out]; omega) (Nat.le_trans HFl.out (by omega)))
  clear hv RB4 RA6 RF6 hb56
  go_wp2_with fail
  generalize hW6 : w5.alloc (.cells #[] 101) = w6 at *
  refine HT6.out.mono ?_
  rintro e w7 ⟨vu, rfl, hu, hb7⟩
  have hml := mul_len (n := n) (F := F) hF0' (by omega)
  rw [HLA.out] at hml
  obtain ⟨gt, ct, rfl, T1, T2, T3⟩ := hu.shape (by omega)
  unfold maxLen at T2
  have HC7 := Lib.hid hu.cellsAt
  have HE7 := Lib.hid (HEm.out.below hb7)
  have hs6 : w5.heap.size ≤ w6.heap.size := by rw [← hW6]; simp
  have HB57 := Lib.hid (show Below w5.heap.size w5 w7 from HB56.out.trans (hb7.mono hs6))
  have hs7 := HB57.out.size
  obtain ⟨LU, hLU⟩ : ∃ LU, LU = (ws (n * F)).length := ⟨_, rfl⟩
  rw [← hLU] at hml T3 ⊢
  have hl1 := hml.1
  have hl2 := hml.2
  have HLU := Lib.hid hLU
  clear hml hu T1 HT6 hW6 hLU HEm hb7
  go_wp2_with (first
    | (at_builtin; refine wpList_append_own _ rfl (.tmp 53) (.tmp 56) 41 rfl w5.heap.size 101 i0 (.int .u32 0) 1 4 Tryz.underlying41 HI.out.1 HI.out.2.1 HI.out.2.2.1 HI.out.2.2.2 rfl (by decide) _ 0 [] rfl HE7.out ⟨gt, 0, none⟩ LU ct ((ws (n * F)).map (Value.int .u32)) rfl (by rw [List.length_map, ← HLU.out]; omega) HC7.out (fun u hu => by rw [List.mem_map] at hu; obtain ⟨x, _, rfl⟩ := hu; rfl) (by unfold maxLen; omega) (by omega) (by omega) ?_; intro v1 w8 hown1 hgrow1 hz1; clear hz1; rw [Nat.zero_add, List.nil_append] at hown1; have HO8 := Lib.hid hown1; have HG8 : Hid (w7.grownBy w8 (some w5.heap.size)) := Lib.hid hgrow1; have hs8 : w7.heap.size ≤ w8.heap.size := grown_size HG8.out; clear hgrow1 hown1)
    | (at_builtin; refine wpList_append_own _ rfl (.tmp 57) (.tmp 58) 41 rfl w5.heap.size 101 i0 (.int .u32 0) 1 4 Tryz.underlying41 HI.out.1 HI.out.2.1 HI.out.2.2.1 HI.out.2.2.2 rfl (by decide) _ LU ((ws (n * F)).map (Value.int .u32)) rfl (World.ownsRow.alloc HO8.out _) ⟨w8.heap.size, 0, none⟩ 2 2 [.int .u32 0, .int .u32 0] rfl rfl (two_cells _ _ _ _) (fun u hu => by simp only [List.mem_cons, List.not_mem_nil, or_false, or_self] at hu; subst hu; rfl) (by unfold maxLen; omega) (by omega) (by simp; omega) ?_; intro v2 w9 hown2 hgrow2 hz2; clear hz2))
  have hgr2 : (w8.alloc (.cells #[.int .u32 0, .int .u32 0] 101)).grownBy w9 v1.ownBlock := hgrow2
  have hlen2 : (ws (n * F)).length = LU := HLU.out.symm
  have hb58 : Below w5.heap.size w5 w8 := HB57.out.grown HG8.out hs7 (fun k hk => by injection hk with hk; omega)
  have hb58a : Below w5.heap.size w5 (w8.alloc (.cells #[.int .u32 0, .int .u32 0] 101)) := hb58.alloc hb58.size _
  have how8 : Own (w8.alloc (.cells #[.int .u32 0, .int .u32 0] 101)) w5.heap.size v1 (ws (n * F)) := by
    unfold Own; rw [hlen2]; exact World.ownsRow.alloc HO8.out _
  have hap := Own.appL (rs := [0, 0]) how8 hb58a (by rw [hlen2]; exact hown2) hgr2 hb58a.size
  have HFl0 : Hid (0 < (ws F).length) := Lib.hid (ws_len_pos.2 (by omega))
  obtain ⟨gf, gu, gv, cf, cu, cv, rfl, rfl, rfl, hcc, hU9, hEW⟩ := ew_start HB1.out HFo.out HB4.out HFl0.out HVV.out HB5.out (by rw [HN.out.2.2.1]; omega) hap.1 hap.2 (by simp)
  have hlen : (ws (n * F) ++ [(0 : Int), 0]).length = LU + 2 := by simp [HLU.out]
  rw [hlen] at hcc hEW hU9 ⊢
  rw [HN.out.2.2.1] at hcc hEW ⊢
  unfold maxLen at hcc
  have c1 := hcc.1; have c2 := hcc.2.1; have c3 := hcc.2.2.1; have c4 := hcc.2.2.2.1; have c5 := hcc.2.2.2.2.1; have c6 := hcc.2.2.2.2.2
  have HEW := Lib.hid hEW
  have hT9 := (re_trimG hU9).1
  rw [ws_trim_pad, hlen2] at hT9
  have HT9 := Lib.hid hT9
  have hmax : max ((la : Int) + 1) (LU : Int) = (la : Int) + 1 := by omega
  clear hgr2 hb58 hb58a how8 hap hlen hcc hEW hU9 hT9 hown2 hgrow2 HO8 HG8 HC7 HE7 HB56 HB57 HVV HFo HB5 HB4 HB1 hlen2 hs8 hs7 hs6 hb15 hb14 RF hcmp
  refine HT9.out.mono ?_
  rintro e w9' ⟨rfl, rfl⟩
  clear HT9
  go_wp2_with (at_make; refine wpList_make_full _ rfl _ _ 41 rfl w9'.heap.size 101 i0 (.int .u32 0) 1 Tryz.underlying41 HI.out.1 HI.out.2.1 HI.out.2.2.1 _ _ _ _ (la + 1 - K) rfl rfl (by omega) (by omega) (by rw [HI.out.2.2.2]; omega) (by unfold maxLen; omega) (Nat.le_refl _) ?_; intro w10 hown10 hgrow10)
  have HD0 := Lib.hid (HEW.out w10 (la + 1) (la + 1 - K) (by omega) hown10 hgrow10)
  have hLU := HLU.out
  have HS0 := Lib.hid (DivO.start2 HK.out (by omega) HLA.out hle hF0' (by omega) (by omega))
  have HVo := Lib.hid (ws_can (m * F)).1
  have HVl := Lib.hid HN.out.2.2.1
  have HVt := Lib.hid HN.out.2.2.2
  have hVp : 0 < wval (ws (m * F)) := by
    rw [ws_val]
    have : m ≠ 0 := by rintro rfl; have := HK.out; rw [ws_zero] at this; simp at this; omega
    have := Nat.mul_pos (show 0 < m by omega) (show 0 < F by omega)
    omega
  have HVp := Lib.hid hVp
  have HU0 : Hid (((ws (n * F) ++ [0, 0]).take (la + 1)).length = la + 1) := Lib.hid (by simp; omega)
  obtain ⟨qb, hqb⟩ : ∃ qb, qb = w9'.heap.size := ⟨_, rfl⟩
  rw [← hqb] at HD0 ⊢
  clear HEW hown10 hgrow10 hVp hqb hLU hmax HI T2 T3 hl1
  go_loopw [13] (fun jx wr => ∃ (jn : Nat) (u q : List Int), jn ≤ la + 1 - K ∧ jx = .int .i64 ((jn : Int) - 1) ∧ Hid (DivO u q (ws (m * F)) (n * F : Nat) jn) ∧ Hid (u.length = la + 1) ∧ Hid (q.length = la + 1 - K) ∧
      Hid (EW w wr gf gu gv qb cf cu cv (la + 1) K (la + 1 - K) (ws F) u (ws (m * F)) q)) (fun jx _ => (intOf jx + 1).toNat)
  case atStart => exact ⟨la + 1 - K, _, _, Nat.le_refl _, by congr 1; omega, HS0, HU0, Lib.hid (by simp), HD0⟩
  case round =>
    obtain ⟨jn, u, q, hjn, rfl, HO, HUl, HQl, HW⟩ := hrel
    clear HD0 HS0 HU0
    by_cases hj0 : 0 < jn
    · obtain ⟨j, rfl⟩ : ∃ j, jn = j + 1 := ⟨jn - 1, by omega⟩
      rw [show ((j + 1 : Nat) : Int) - 1 = (j : Int) from by omega]
      have hul : j + K < u.length := by have := HUl.out; omega
      have hld := lead_at HO.out.uok HVo.out HVl.out hK2 hul (HO.out.fit (by omega)) HVt.out
      have HZ := Lib.hid hld.2
      have HL := Lib.hid hld.1
      have cu0 := HW.out.U.cell (j + K) (by omega)
      have cu1 := HW.out.U.cell (j + K - 1) (by omega)
      have cv0 := HW.out.V.cell (K - 1) (by omega)
      clear hld
      generalize ha : u[j + K]?.getD 0 = ua at *
      generalize hb : u[j + K - 1]?.getD 0 = ub at *
      generalize hv1 : (ws (m * F))[K - 1]?.getD 0 = v1 at *
      have Ha := Lib.hid ha
      have Hb := Lib.hid hb
      have Hv1 := Lib.hid hv1
      clear ha hb hv1
      have l1 := HL.out.a0; have l2 := HL.out.b0; have l3 := HL.out.b1; have l4 := HL.out.v10; have l5 := HL.out.v11
      have l7 : ua < 1000000000 := by
        have l6 := HL.out.top
        have h1 := HL.out.v21
        omega
      have hne : (v1 != 0) = true := by rw [bne_iff_ne]; omega
      have GS := Lib.hid (Gs.start HL.out)
      have HWp := Lib.hid HL.out.W0
      go_wp2
      go_quiet (fail)
      go_upto_region 16 with fail
      go_quiet (fail)
      go_wp2
      go_loopw [15, 16] (fun gx rx wc => ∃ g r : Int, gx = .int .u64 g ∧ rx = .int .u64 r ∧ Hid (Gs (wval (u.drop j)) (wval (ws (m * F))) ua ub v1 g r) ∧ Hid (EW w wc gf gu gv qb cf cu cv (la + 1) K (la + 1 - K) (ws F) u (ws (m * F)) q)) (fun _ rx _ => (1000000000 - intOf rx).toNat)
      case atStart => exact ⟨_, _, rfl, rfl, GS, Lib.hid ((HW.out.drewN _).drewN _)⟩
      case round =>
        clear cu0 cu1 cv0
        obtain ⟨g, r, rfl, rfl, hG, hD⟩ := hrel
        have g0 := hG.out.g0
        have g1 := hG.out.g1
        have r0 := hG.out.r0
        have r1 := hG.out.r1
        have cv0 := hD.out.V.cell (K - 1) (by omega)
        have cv1 := hD.out.V.cell (K - 2) (by omega)
        have cu2 := hD.out.U.cell (j + K - 2) (by omega)
        rw [Hv1.out] at cv0
        have w1 := HL.out.v20
        have w2 := HL.out.v21
        have w3 := HL.out.c0
        have w4 := HL.out.c1
        have gv := mul_lt2 g0 g1 w1 w2
        generalize hv2 : (ws (m * F))[K - 2]?.getD 0 = v2 at *
        generalize hc2 : u[j + K - 2]?.getD 0 = c2 at *
        have gv0 := gv.1
        have gv1 := gv.2
        clear gv hv2 hc2
        by_cases hr : r < 1000000000
        · have hrd : decide (r < 1000000000) = true := by rw [decide_eq_true_iff]; exact hr
          by_cases hg : 1000000000 ≤ g
          · have hgd : decide (1000000000 ≤ g) = true := by rw [decide_eq_true_iff]; exact hg
            have HA := Lib.hid (Gs.again HL.out hG.out hr (.inl hg))
            have hg1 := HA.out.2
            go_wp2
            go_quiet (fail)
            go_wp2
            exact ⟨⟨_, _, rfl, rfl, HA.out.1, Lib.hid (hD.out.drewN _)⟩, by simp [intOf]; omega⟩
          · have hgd : decide (1000000000 ≤ g) = false := by rw [decide_eq_false_iff_not]; exact hg
            by_cases ht : r * 1000000000 + c2 < g * v2
            · have HA := Lib.hid (Gs.again HL.out hG.out hr (.inr ht))
              have hg1 := HA.out.2
              go_wp2
              go_quiet (fail)
              go_wp2
              exact ⟨⟨_, _, rfl, rfl, HA.out.1, Lib.hid (hD.out.drewN _)⟩, by simp [intOf]; omega⟩
            · have HE := Lib.hid (Gs.stop HL.out hG.out (.inl ⟨by omega, by omega⟩))
              go_wp2
              go_quiet (fail)
              go_wp2_with fail
              have hD2 := Lib.hid (hD.out.drewN nq)
              refine (re_reduce w _ gf gu gv qb cf cu cv (la + 1) K (la + 1 - K) (ws F) u (ws (m * F)) q _ g j hD2.out HO.out HE.out HVo.out HVl.out HUl.out (by rw [HQl.out]; omega) (by omega) HZ.out HVp.out HWp.out (by omega) (by omega) (by omega) (by omega)).mono ?_
              rintro e wn ⟨u', g', rfl, hEn, hun, hDn⟩
              have HEn := Lib.hid hEn
              have HDn := Lib.hid hDn
              have HUn := Lib.hid hun
              have cq := hEn.Q.cell j (by omega)
              have fq := hEn.Q.free j
              generalize q[j]?.getD 0 = oq at *
              clear hEn hDn hun cv0 cv1 cu2
              go_wp2
              exact ⟨⟨j, u', q.set j g', by omega, rfl, HDn, HUn, Lib.hid (by rw [List.length_set]; exact HQl.out), Lib.hid (HEn.out.setQ j g')⟩, by simp [intOf]⟩
        · have hrd : decide (r < 1000000000) = false := by rw [decide_eq_false_iff_not]; exact hr
          have HE := Lib.hid (Gs.stop HL.out hG.out (.inr (by omega)))
          go_wp2
          go_quiet (fail)
          go_wp2_with fail
          have hD2 := Lib.hid (hD.out.drewN nq)
          refine (re_reduce w _ gf gu gv qb cf cu cv (la + 1) K (la + 1 - K) (ws F) u (ws (m * F)) q _ g j hD2.out HO.out HE.out HVo.out HVl.out HUl.out (by rw [HQl.out]; omega) (by omega) HZ.out HVp.out HWp.out (by omega) (by omega) (by omega) (by omega)).mono ?_
          rintro e wn ⟨u', g', rfl, hEn, hun, hDn⟩
          have HEn := Lib.hid hEn
          have HDn := Lib.hid hDn
          have HUn := Lib.hid hun
          have cq := hEn.Q.cell j (by omega)
          have fq := hEn.Q.free j
          generalize q[j]?.getD 0 = oq at *
          clear hEn hDn hun cv0 cv1 cu2
          go_wp2
          exact ⟨⟨j, u', q.set j g', by omega, rfl, HDn, HUn, Lib.hid (by rw [List.length_set]; exact HQl.out), Lib.hid (HEn.out.setQ j g')⟩, by simp [intOf]⟩
    · obtain rfl : jn = 0 := by omega
      have hdone := HO.out.done (by omega)
      rw [HVl.out] at hdone
      have HDn := Lib.hid hdone
      have hF1' := ws_one (m := F) (by have := HFl.out; have := HFl0.out; omega)
      have cf0 := HW.out.F.cell 0 (by have := HFl0.out; omega)
      rw [hF1'.1] at cf0
      have hfl1 : (ws F).length = 1 := by have := HFl.out; have := HFl0.out; omega
      rw [hfl1]
      have kb1 : (0 : Int) ≤ (K : Int) := by omega
      have kb2 : (K : Int) ≤ (cu : Int) := by omega
      have kb3 : (K : Int) ≤ (la : Int) + 1 := by omega
      have kb4 : K ≤ cu := by omega
      have kb5 : K ≤ la + 1 := by omega
      have hgfl := HW.out.F.lt.2
      have HRm : Hid (n % m * F / F = n % m) := Lib.hid (Nat.mul_div_cancel _ (by omega))
      have hrl : (ws (n % m * F)).length ≤ 1000000000 := by
        rw [← hdone.2]
        have := trimL_len (u.take K)
        simp at this
        omega
      have HUd : OwnG wr.drew w.heap.size gu (la + 1) cu u := HW.out.U.drewN 1
      have HT := re_trimG (HUd.take K (by omega))
      rw [HDn.out.2] at HT
      have HT9 := Lib.hid HT.1
      have HS9 := Lib.hid (re_small _ (n % m * F) F wr.drew HT.2.rd hrl (by omega) (by omega))
      have HQ9 : Hid (OwnG wr.drew w.heap.size qb (la + 1 - K) (la + 1 - K) q) := Lib.hid (HW.out.Q.drewN 1)
      have HB9 : Hid (Below w.heap.size w wr.drew) := Lib.hid (below_drewN HW.out.B 1)
      have cf1 : wr.drew.cell? ⟨gf, 0, none⟩ = some (.int .u32 (F : Int)) := cf0
      clear hdone hrl hF1' HUd HT HO HUl HQl
      go_wp2
      first
      | go_region_held3 (fun w' => w'.cell? ⟨gf, 0, none⟩ = some (.int .u32 (F : Int))) (first | exact cf0 | exact cf1 | with_reducible assumption | go_keep)
          (first
            | (go_at_call 97; (with_reducible refine (HT9.out).mono ?_); rintro e wt ⟨rfl, rfl⟩)
            | (go_at_call 142; (with_reducible refine (HS9.out).mono ?_); rintro e ws9 ⟨r, rfl, hr, hb⟩; have cf2 := (hb.cell (p := ⟨gf, 0, none⟩) hgfl).trans cf1; have HRs := Lib.hid hr; have HBs := Lib.hid hb; clear hr hb))
      | fail
      all_goals
        have HTq := re_trimG (HQ9.out.below HBs.out)
        rw [HDn.out.1] at HTq
        have HTa := Lib.hid HTq.1
        have HTb := Lib.hid HTq.2.rd
        have hB11 := below_seq HB9.out HBs.out
        rw [HRm.out] at HRs
        clear HTq
        go_wp2_with fail
        refine HTa.out.mono ?_
        rintro e w12 ⟨rfl, rfl⟩
        go_wp2
        go_ret2
        exact ⟨_, _, rfl, HTb.out, HRs.out.rd, hB11⟩
end Go.Proofs.YthkkdepppjiaeaaGreatDoor

/- Walks of the reference of layer 1: Over at all, Common. -/
namespace Go.Proofs.YthkkdepppjiaeaaGreatDoor
open Go.RowKit

theorem re_Over (va vb : Value) (n m : Nat) (w : World) (hA : Rd w va (ws n)) (hB : Rd w vb (ws m)) (hm : 0 < m) (hl : (ws n).length ≤ 300000000) :
    Calls Tryz.prog 100 #[va, vb] w (DivPost n m w) := by
  by_cases h1 : n < m
  · exact re_Over_less va vb n m w hA hB h1
  · by_cases h3 : (ws m).length = 1
    · exact re_Over_one va vb n m w hA hB (by omega) (by omega) h3
    · exact re_Over_long va vb n m w hA hB (by omega) hl (by
        have : (ws m).length ≠ 0 := fun e => by have := ws_nil_iff.1 (List.eq_nil_of_length_eq_zero e); omega
        omega)

set_option maxRecDepth 100000 in
set_option maxHeartbeats 4000000 in
theorem re_Common (va vb : Value) (n m : Nat) (w : World) (hA : Rd w va (ws n)) (hB : Rd w vb (ws m)) (hl : (ws n).length ≤ 300000000) (hlm : (ws m).length ≤ 300000000) :
    Calls Tryz.prog 60 #[va, vb] w fun e w' => ∃ v, e = .returned v ∧ Rd w' v (ws (Nat.gcd n m)) ∧ Below w.heap.size w w' := by
  have RA := Lib.hid hA
  have RB := Lib.hid hB
  have HL := Lib.hid hl
  have HM := Lib.hid hlm
  clear hA hB hl hlm
  go_enter Tryz.func60, Tryz.ntmps60
  go_wp2
  go_loopg [0, 1] m (fun k v0 v1 wr => ∃ a : Nat, Hid (Rd wr v0 (ws a)) ∧ Hid (Rd wr v1 (ws k)) ∧ Hid (Nat.gcd a k = Nat.gcd n m) ∧ Hid ((ws a).length ≤ 300000000) ∧ Hid ((ws k).length ≤ 300000000) ∧ Below w.heap.size w wr)
  case atStart => exact ⟨n, RA, RB, Lib.hid rfl, HL, HM, Below.refl _ _⟩
  case round =>
    obtain ⟨a, HA, HB, HG, La, Lb, hBr⟩ := hrel
    obtain ⟨B, d, e1, b1, b2, -⟩ := HB.out
    obtain ⟨A, c, e2, a1, a2, -⟩ := HA.out
    unfold maxLen at b2 a2
    by_cases h0 : gk = 0
    · subst h0
      rw [ws_zero] at e1
      subst e1
      have HF := HA.out
      rw [show a = Nat.gcd n m by rw [← HG.out, Nat.gcd_zero_right]] at HF
      have HF := Lib.hid HF
      clear e2
      go_wp2
      go_ret
      exact ⟨_, rfl, HF.out, hBr⟩
    · have hk : 0 < gk := by omega
      have hlp := ws_len_pos.2 hk
      have Lk := Lb.out
      have Ll := La.out
      subst e1 e2
      by_cases hs : (ws a).length ≤ 2 ∧ (ws gk).length ≤ 2
      · have hs1 := hs.1
        have hs2 := hs.2
        have ba := ws_small hs1
        have bk := ws_small hs2
        have W1 := re_word _ (ws a) wr HA.out hs1 (ws_can a).1
        have W2 := re_word _ (ws gk) wr HB.out hs2 (ws_can gk).1
        rw [ws_val] at W1 W2
        have W1 := Lib.hid W1
        have W2 := Lib.hid W2
        clear hs
        go_wp2_with fail
        refine W1.out.mono ?_
        rintro e w1 ⟨rfl, rfl⟩
        go_wp2_with fail
        refine W2.out.mono ?_
        rintro e w2 ⟨rfl, rfl⟩
        clear W1 W2
        go_wp2
        clear HA HB La Lb
        go_loopg [5, 6] gk (fun k x y wr => ∃ p : Nat, x = .int .u64 p ∧ y = .int .u64 k ∧ p < 1000000000000000000 ∧ k < 1000000000000000000 ∧ Hid (Nat.gcd p k = Nat.gcd n m) ∧ Below w.heap.size w wr)
        case atStart => exact ⟨a, rfl, rfl, ba, bk, HG, hBr⟩
        case round =>
          obtain ⟨p, rfl, rfl, hp, hgk2, HG2, hBr2⟩ := hrel
          by_cases h2 : gk = 0
          · subst h2
            have HP : Hid (p = Nat.gcd n m) := Lib.hid (by rw [← HG2.out, Nat.gcd_zero_right])
            go_wp2_with fail
            refine (re_wide p _ (by omega) (by omega)).mono ?_
            rintro e w3 ⟨v, rfl, hv, hb3⟩
            rw [Int.toNat_natCast, HP.out] at hv
            have HV := Lib.hid hv.rd
            clear hv
            go_wp2
            go_ret
            exact ⟨_, rfl, HV.out, below_seq hBr2 hb3⟩
          · have e1 : ((gk : Int) != 0) = true := by rw [bne_iff_ne]; omega
            have hpos : 0 < gk := by omega
            have hml := Nat.mod_lt p hpos
            have HM : Hid ((p : Int) % gk = (p % gk : Nat)) := Lib.hid (by simp)
            have HG3 : Hid (Nat.gcd gk (p % gk) = Nat.gcd n m) := Lib.hid (by rw [gcd_step]; exact HG2.out)
            go_wp2
            go_quiet (fail)
            go_wp2
            rw [HM.out]
            go_roundg (p % gk)
            case measure => exact hml
            case rel => exact ⟨gk, rfl, rfl, hgk2, by omega, HG3, below_drewN hBr2 _⟩
      · have HDv := Lib.hid (re_Over _ _ a gk wr HA.out HB.out hk La.out)
        have hmodl := ws_len_mod (n := a) hk
        have Lr : Hid ((ws (a % gk)).length ≤ 300000000) := Lib.hid (by omega)
        have HG3 : Hid (Nat.gcd gk (a % gk) = Nat.gcd n m) := Lib.hid (by rw [gcd_step]; exact HG.out)
        have hlt := Nat.mod_lt a hk
        by_cases h2 : (ws a).length ≤ 2
        · have h3 : ¬ (ws gk).length ≤ 2 := fun h => hs ⟨h2, h⟩
          clear hs hmodl
          go_wp2_with fail
          refine HDv.out.mono ?_
          rintro e w1 ⟨q, r, rfl, hq, hr, hb⟩
          have HR := Lib.hid hr
          have HB2 := Lib.hid (HB.out.below hb)
          have hb2 := below_seq hBr hb
          clear hq hr HDv
          go_wp2
          go_roundg (a % gk)
          case measure => exact hlt
          case rel => exact ⟨gk, HB2, HR, HG3, Lb, Lr, hb2⟩
        · clear hs hmodl
          go_wp2_with fail
          refine HDv.out.mono ?_
          rintro e w1 ⟨q, r, rfl, hq, hr, hb⟩
          have HR := Lib.hid hr
          have HB2 := Lib.hid (HB.out.below hb)
          have hb2 := below_seq hBr hb
          clear hq hr HDv
          go_wp2
          go_roundg (a % gk)
          case measure => exact hlt
          case rel => exact ⟨gk, HB2, HR, HG3, Lb, Lr, hb2⟩
end Go.Proofs.YthkkdepppjiaeaaGreatDoor
