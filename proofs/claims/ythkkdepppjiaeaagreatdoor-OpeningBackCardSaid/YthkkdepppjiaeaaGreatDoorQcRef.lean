/- A PART OF THE PROOF, JOINED OUT OF 3 TEXTS. -/
import Derived.Test.YthkkdepppjiaeaaGreatDoorQbRef
import Derived.Laws.BytesString
import Derived.Laws.Cells
import Derived.Deep.RegionWith
/- The long division once more: what the reference's steps do (plain). -/
namespace Go.Proofs.YthkkdepppjiaeaaGreatDoor
open Go.RowKit

/-- The word above the window was turned ahead of the adding back: it makes no difference to the rest. -/
theorem AddI.swap {u1 u2 v : List Int} {j i t : Nat} {p x : Int} (h : AddI (u1.set t x) u2 v j i p) (ht : j + i ≤ t) (hl : t < u1.length) (ok : WOk u1) : AddI u1 (u2.set t (u1[t]?.getD 0)) v j i p := by
  have hlen := h.len
  rw [List.length_set] at hlen
  have gt := ok.getD t
  rw [List.getD_eq_getElem?_getD] at gt
  have hx : u2[t]?.getD 0 = x := by rw [h.rest t ht, List.getElem?_set_self hl]; rfl
  refine ⟨h.ok.set _ gt, by rw [List.length_set]; exact hlen, ?_, fun s hs => ?_, ?_, h.p0, h.p1⟩
  · rw [wval_set _ _ _ (by omega), hx, h.eq, wval_set _ _ _ hl]
    generalize u1[t]?.getD 0 = y
    generalize bpow t = P
    grind
  · by_cases e : s = t
    · subst e; rw [List.getElem?_set_self (by omega)]; rfl
    · rw [List.getElem?_set_ne (by omega), h.rest s hs, List.getElem?_set_ne (by omega)]
  · rw [List.take_set, List.set_eq_of_length_le (by simp; omega), h.low, List.take_set, List.set_eq_of_length_le (by simp; omega)]

theorem take_pad {l : List Int} {k : Nat} (h1 : k ≤ l.length + 1) (h2 : l.length ≤ k) : (l ++ [0, 0]).take k = l ++ List.replicate (k - l.length) 0 := by
  rcases Nat.lt_or_ge l.length k with h | h
  · obtain rfl : k = l.length + 1 := by omega
    rw [List.take_append, List.take_of_length_le (by omega), show l.length + 1 - l.length = 1 by omega]
    rfl
  · obtain rfl : k = l.length := by omega
    rw [List.take_append, List.take_length, Nat.sub_self]
    rfl

/-- The start of the reference's long division. -/
theorem DivO.start2 {n m F K la : Nat} (hm : (ws m).length = K) (hK : 1 ≤ K) (hn : (ws n).length = la) (hmn : m ≤ n) (hF : 1 ≤ F) (hl1 : (ws (n * F)).length ≤ la + 1) (hl0 : la ≤ (ws (n * F)).length) :
    DivO ((ws (n * F) ++ [0, 0]).take (la + 1)) (List.replicate (la + 1 - K) 0) (ws (m * F)) (n * F : Nat) (la + 1 - K) := by
  have hKl : K ≤ la := by
    have := (ws_can m).len_le (ws_can n) (by rw [ws_val, ws_val]; omega)
    omega
  have hu := take_pad (l := ws (n * F)) (k := la + 1) (by omega) hl1
  have hw := (ws_can (n * F)).1
  have hok : WOk (ws (n * F) ++ List.replicate (la + 1 - (ws (n * F)).length) 0) := hw.append (WOk.replicate _)
  have hv : wval (ws (n * F) ++ List.replicate (la + 1 - (ws (n * F)).length) 0) = (n * F : Nat) := by
    rw [wval_append, wval_replicate, ws_val]; omega
  have hlen : (ws (n * F) ++ List.replicate (la + 1 - (ws (n * F)).length) (0 : Int)).length = la + 1 := by simp; omega
  rw [hu]
  generalize ws (n * F) ++ List.replicate (la + 1 - (ws (n * F)).length) (0 : Int) = u at *
  refine ⟨hok, WOk.replicate _, ?_, ?_, fun t ht => by simp [ht]⟩
  · rw [List.drop_of_length_le (by simp), hv]; simp [wval]
  · have hs := wval_split u (la + 1 - K) (by omega)
    have h0 := wval_nonneg (hok.take (la + 1 - K))
    have hlow := (ws_can m).low (by intro e; rw [e] at hm; simp at hm; omega)
    rw [hm, ws_val] at hlow
    have hn2 := wval_lt (ws_can n).1
    rw [hn, ws_val] at hn2
    have hp := bpow_add (la + 1 - K) (K - 1)
    rw [show la + 1 - K + (K - 1) = la by omega] at hp
    rw [ws_val]
    rw [hv] at hs
    have hP := bpow_pos (la + 1 - K)
    have hP2 := bpow_pos (K - 1)
    generalize wval (u.take (la + 1 - K)) = lo at *
    generalize wval (u.drop (la + 1 - K)) = hi at *
    generalize bpow (la + 1 - K) = P at *
    generalize bpow (K - 1) = R at *
    rw [Int.natCast_mul] at hs ⊢
    rcases Int.lt_or_le hi ((m : Int) * F) with h | h
    · exact h
    · exfalso
      have a1 := mulL h (show 0 ≤ P by omega)
      have a2 := mulL hlow (show 0 ≤ P by omega)
      have a3 := mulL a2 (show (0 : Int) ≤ F by omega)
      have a4 := mulL (show (n : Int) + 1 ≤ bpow la by omega) (show (0 : Int) ≤ F by omega)
      rw [hp] at a4
      have a5 : (F : Int) * (P * m) = P * (m * F) := by grind
      have a6 : (F : Int) * (n + 1) = n * F + F := by grind
      omega
end Go.Proofs.YthkkdepppjiaeaaGreatDoor

/- Walks of the reference of layer 1: To. -/
namespace Go.Proofs.YthkkdepppjiaeaaGreatDoor
open Go.RowKit

/-- A slice of the call's own that holds bytes. -/
def OwnB (w : World) (base : Nat) (v : Value) (l : List Int) : Prop := w.ownsRow base 5 1 v l.length (l.map (Value.int .u8))
theorem OwnB.app {w wr w2 : World} {B : Nat} {v v' : Value} {o : List Int} {r : Int} {X : Obj} (h : OwnB wr B v o) (hb : Below B w wr) (hs : B ≤ wr.heap.size)
    (hown : w2.ownsRow B 5 1 v' (o.length + 1) (o.map (Value.int .u8) ++ [.int .u8 r])) (hg : (wr.alloc X).grownBy w2 v.ownBlock) : OwnB w2 B v' (o ++ [r]) ∧ Below B w w2 := by
  refine ⟨?_, (hb.alloc hs X).grown hg (by simp; omega) (fun k hk => (World.ownsRow.lt h k hk).1)⟩
  unfold OwnB
  rw [List.length_append, List.map_append]
  exact hown
/-- .. at a known place. -/
def OwnBG (w : World) (base g n c : Nat) (o : List Int) : Prop :=
  o.length = n ∧ w.ownsRow base 5 1 (.slice (some ⟨g, 0, none⟩) n c) n (o.map (Value.int .u8))
theorem OwnB.shape {w : World} {base : Nat} {v : Value} {l : List Int} (h : OwnB w base v l) (h0 : 0 < l.length) : ∃ g c, v = .slice (some ⟨g, 0, none⟩) l.length c ∧ OwnBG w base g l.length c l ∧ c ≤ maxLen ∧ l.length ≤ c := by
  obtain ⟨h1, h2⟩ := h
  rcases h2 with ⟨_, h2⟩ | ⟨g, cap, cur, rfl, hb, hh, hn, hc, hs, ht⟩
  · omega
  · exact ⟨g, cap, rfl, ⟨rfl, h1, .inr ⟨g, cap, cur, rfl, hb, hh, hn, hc, hs, ht⟩⟩, hc, hn⟩
theorem OwnBG.cell {w : World} {base g n c : Nat} {o : List Int} (h : OwnBG w base g n c o) (j : Nat) (hj : j < n) : w.cell? ⟨g, j, none⟩ = some (.int .u8 (o[j]?.getD 0)) := by
  have := h.2.cellAt j (by simpa using hj)
  rw [this, List.getElem?_map, List.getElem?_eq_getElem (by rw [h.1]; exact hj)]
  rfl
theorem OwnBG.free {w : World} {base g n c : Nat} {o : List Int} (h : OwnBG w base g n c o) (j : Nat) : w.frozen? ⟨g, j, none⟩ = false := h.2.frozenAt j
theorem OwnBG.store {w : World} {base g n c : Nat} {o : List Int} (h : OwnBG w base g n c o) (j : Nat) (x : Int) : OwnBG (w.setCell ⟨g, j, none⟩ (.int .u8 x)) base g n c (o.set j x) := by
  refine ⟨by rw [List.length_set]; exact h.1, ?_⟩
  have := (h.2.stored j (.int .u8 x)).1
  rwa [← List.map_set] at this
theorem OwnBG.lt {w : World} {base g n c : Nat} {o : List Int} (h : OwnBG w base g n c o) : base ≤ g ∧ g < w.heap.size := h.2.lt g rfl
theorem OwnBG.drewN {w : World} {base g n c : Nat} {o : List Int} (h : OwnBG w base g n c o) (m : Nat) : OwnBG (w.drewN m) base g n c o := h
theorem OwnBG.drew {w : World} {base g n c : Nat} {o : List Int} (h : OwnBG w base g n c o) : OwnBG w.drew base g n c o := h
theorem fold_bytes (l : List UInt8) (s : ByteArray) : (l.map (fun c => (c.toNat : Int))).foldl (fun r n => r.push (UInt8.ofNat n.toNat)) s = ⟨s.data ++ l.toArray⟩ := by
  induction l generalizing s with
  | nil => simp
  | cons c l ih =>
    simp only [List.map_cons, List.foldl_cons]
    rw [ih]
    apply ByteArray.ext
    apply Array.toList_inj.1
    simp [ByteArray.push]
/-- string(b). -/
theorem OwnBG.text {w : World} {base g n c m : Nat} (h : OwnBG w base g n c ((Lib.decDigits m).map (fun c => (c.toNat : Int)))) :
    (convert 146 9 (.slice (some ⟨g, 0, none⟩) n c)).run Tryz.prog w = .ok (.string (nS m)) w := by
  have hl := h.1
  rw [run_convert_bytes_string w _ _ 5 _ _ _ Tryz.underlying146 Tryz.underlying5 Tryz.underlying9]
  rw [run_bytesToString w ⟨g, 0, none⟩ n c ((Lib.decDigits m).map (fun c => (c.toNat : Int)))]
  · rw [fold_bytes]
    have e : ByteArray.empty.data ++ (Lib.decDigits m).toArray = (Lib.decDigits m).toArray := by
      show #[] ++ _ = _
      simp
    rw [e]
    rfl
  · rw [← hl]
    have hr := run_loadCells_list (w := w) (P := Tryz.prog) ⟨g, 0, none⟩ (((Lib.decDigits m).map (fun c => (c.toNat : Int))).map (Value.int .u8)) (fun j v hv => by
      have hj : j < n := by
        rw [← hl]
        have := (List.getElem?_eq_some_iff.1 hv).1
        simpa using this
      have := h.2.cellAt j (by simpa using hj)
      rw [add_plain, this]
      exact hv)
    rw [List.length_map] at hr
    exact hr
theorem inf8 : (Tryz.prog.info? 5).map (fun i => (i.zero, i.size, i.bytes)) = some (some (.int .u8 0), 1, 1) := by kernel_rfl

set_option maxRecDepth 100000 in
set_option maxHeartbeats 4000000 in
theorem re_To (v : Value) (n : Nat) (w : World) (hv : Rd w v (ws n)) (hl : (ws n).length ≤ 100000000) :
    Calls Tryz.prog 64 #[v] w fun e w' => e = .returned (.string (nS n)) ∧ Below w.heap.size w w' := by
  obtain ⟨A, c, rfl, a1, a2, a3⟩ := hv
  unfold maxLen at a2
  by_cases hn : n = 0
  · subst hn
    have h0 : (ws 0).length = 0 := by rw [ws_zero]; rfl
    have HN : Hid (nS 0 = ⟨#[48]⟩) := Lib.hid (by unfold nS; rw [show Lib.decDigits 0 = [48] by rw [Lib.decDigits]; rfl])
    rw [HN.out, h0]
    clear a3 h0 HN hl a1
    go_enter Tryz.func64, Tryz.ntmps64
    go_wp2
    go_ret
    exact ⟨rfl, Below.refl _ _⟩
  have hlp : 0 < (ws n).length := ws_len_pos.2 (by omega)
  have d0 : (((ws n).length : Int) == 0) = false := by rw [beq_eq_false_iff_ne]; omega
  have RA := Lib.hid a3
  have HIN := Lib.hid (ws_in n)
  have HAT := Lib.hid (ws_at n)
  have HN := Lib.hid (show 0 < n by omega)
  have HTX := Lib.hid (fun w base g k c (h : OwnBG w base g k c ((Lib.decDigits n).map (fun c => (c.toNat : Int)))) => h.text)
  have HRV := Lib.hid (rdz_bytes (m := n) (by omega))
  generalize hws : ws n = a at *
  generalize nS n = S at *
  have HL : Hid (rdz n = [] ++ rdz (n / 1000000000 ^ 0)) := Lib.hid (by simp)
  have HLN : Hid (∀ o : List Int, rdz n = o ++ rdz (n / 1000000000 ^ a.length) → o = rdz n) := Lib.hid (fun o h => by
    have : n / 1000000000 ^ a.length = 0 := by
      rcases Nat.eq_zero_or_pos (n / 1000000000 ^ a.length) with e | e
      · exact e
      · have := (HIN.out a.length).2 e; omega
    rw [this, rdz_zero, List.append_nil] at h
    exact h.symm)
  have HRL : Hid (0 < (rdz n).length) := Lib.hid (by rw [rdz_step HN.out]; simp)
  obtain ⟨i0, hi, hz0, hz1, hz2⟩ := info_parts inf8
  have HO : Hid (OwnB w w.heap.size (.slice none 0 0) []) := Lib.hid (by exact ⟨rfl, Or.inl ⟨rfl, rfl⟩⟩)
  clear hws a3 hn
  go_enter Tryz.func64, Tryz.ntmps64
  go_wp2
  go_loopw [3, 4] (fun v ix wr => ∃ (i : Nat) (o : List Int), i ≤ a.length ∧ ix = .int .i64 i ∧ o.length ≤ 9 * i ∧ Hid (rdz n = o ++ rdz (n / 1000000000 ^ i)) ∧ Hid (OwnB wr w.heap.size v o) ∧ Below w.heap.size w wr) (fun _ ix _ => a.length - (intOf ix).toNat)
  case atStart => exact ⟨0, [], Nat.zero_le _, rfl, Nat.le_refl _, HL, HO, Below.refl _ _⟩
  case round =>
    obtain ⟨i, o, hia, rfl, hol, HI, HW, hBr⟩ := hrel
    by_cases h0 : i < a.length
    · obtain ⟨ba, rfl, hc⟩ := (RA.out.below hBr).at_ (by omega)
      have cx := hc i h0
      rw [HAT.out i] at cx
      have HE := Lib.hid (ToI.enter HI.out)
      have HH := HIN.out (i + 1)
      obtain ⟨W, hW⟩ : ∃ W, W = n / 1000000000 ^ i % 1000000000 := ⟨_, rfl⟩
      obtain ⟨H, hH⟩ : ∃ H, H = n / 1000000000 ^ (i + 1) := ⟨_, rfl⟩
      rw [← hW] at cx HE
      rw [← hH] at HE HH
      have HHH := Lib.hid hH
      clear hc hW hH
      go_wp2
      obtain ⟨wo, rfl⟩ : ∃ wo : World, wo = wr := ⟨_, rfl⟩
      clear cx
      go_loopw [3, 5, 6] (fun v wx kx wr => ∃ (k x : Nat) (o : List Int), k ≤ 9 ∧ kx = .int .i64 k ∧ wx = .int .u32 (x : Nat) ∧ o.length ≤ 9 * i + k ∧ Hid (ToI n H k x o) ∧ Hid (OwnB wr w.heap.size v o) ∧ Below w.heap.size w wr) (fun _ _ kx _ => 9 - (intOf kx).toNat)
      case atStart => exact ⟨0, W, o, Nat.zero_le _, rfl, rfl, by omega, HE, HW, hBr⟩
      case round =>
        obtain ⟨k, x, o, hk, rfl, rfl, hol, HT, HW, hBr⟩ := hrel
        have hsz := hBr.size
        have hx := HT.out.lt9
        by_cases h9 : k < 9
        · by_cases h1 : i + 1 < a.length
          · have HN := Lib.hid (HT.out.step h9 (Or.inl (HH.1 h1)))
            have hm : ((x % 10 : Nat) : Int) = (x : Int) % 10 := by omega
            have HM := Lib.hid hm
            clear hm HH
            go_wp2_with (at_builtin; refine wpList_append_own _ rfl (.tmp 37) (.tmp 42) 146 rfl w.heap.size 5 i0 (.int .u8 0) 1 1 Tryz.underlying146 hi hz0 hz1 hz2 rfl (by decide) _ _ _ rfl (World.ownsRow.alloc HW.out _) ⟨wr.heap.size, 0, none⟩ 1 1 _ rfl rfl (one_cell _ _ _) (fun u hu => by rw [List.mem_singleton] at hu; subst hu; rfl) (by unfold maxLen; omega) (by omega) (by simp; omega) ?_; intro v' w2 hown hgrow _)
            obtain ⟨hO, hB2⟩ := HW.out.app hBr hsz hown hgrow
            rw [← HM.out] at hO
            exact ⟨⟨k + 1, x / 10, _, by omega, by simp, by simp, by simp; omega, HN, Lib.hid hO, hB2⟩, by simp [intOf]; omega⟩
          · by_cases h2 : 0 < x
            · have HN := Lib.hid (HT.out.step h9 (Or.inr h2))
              have hm : ((x % 10 : Nat) : Int) = (x : Int) % 10 := by omega
              have HM := Lib.hid hm
              clear hm HH
              go_wp2_with (at_builtin; refine wpList_append_own _ rfl (.tmp 37) (.tmp 42) 146 rfl w.heap.size 5 i0 (.int .u8 0) 1 1 Tryz.underlying146 hi hz0 hz1 hz2 rfl (by decide) _ _ _ rfl (World.ownsRow.alloc HW.out _) ⟨wr.heap.size, 0, none⟩ 1 1 _ rfl rfl (one_cell _ _ _) (fun u hu => by rw [List.mem_singleton] at hu; subst hu; rfl) (by unfold maxLen; omega) (by omega) (by simp; omega) ?_; intro v' w2 hown hgrow _)
              obtain ⟨hO, hB2⟩ := HW.out.app hBr hsz hown hgrow
              rw [← HM.out] at hO
              exact ⟨⟨k + 1, x / 10, _, by omega, by simp, by simp, by simp; omega, HN, Lib.hid hO, hB2⟩, by simp [intOf]; omega⟩
            · have hx0 : x = 0 := by omega
              have hH0 : H = 0 := by
                rcases Nat.eq_zero_or_pos H with e | e
                · exact e
                · exact absurd (HH.2 e) h1
              have HN := HT.out.done (Or.inr ⟨hH0, hx0⟩)
              rw [HHH.out] at HN
              have HN := Lib.hid HN
              clear HH hH0
              subst hx0
              go_wp2
              exact ⟨⟨i + 1, o, by omega, by simp, by omega, HN, HW, hBr⟩, by simp [intOf]; omega⟩
        · have hk9 : k = 9 := by omega
          have HN := HT.out.done (Or.inl hk9)
          rw [HHH.out] at HN
          have HN := Lib.hid HN
          clear HH
          subst hk9
          go_wp2
          exact ⟨⟨i + 1, o, by omega, by simp, by omega, HN, HW, hBr⟩, by simp [intOf]; omega⟩
    · obtain rfl : i = a.length := by omega
      have hor := HLN.out o HI.out
      have hop := HRL.out
      rw [← hor] at hop
      obtain ⟨g, cc, rfl, HG, hc1, hc2⟩ := HW.out.shape hop
      unfold maxLen at hc1
      have hgl := HG.lt
      have HRS := Lib.hid (RvI.start o)
      have HRD : Hid (∀ q i, RvI o q i → ¬ i < o.length - 1 - i → q = (Lib.decDigits n).map (fun c => (c.toNat : Int))) := Lib.hid (fun q i h hi => by rw [h.done hi, hor, HRV.out])
      have HG := Lib.hid HG
      clear hor HI HW
      go_wp2
      go_loopw [7, 8] (fun ix kx wr => ∃ (i : Nat) (q : List Int), i ≤ o.length ∧ ix = .int .i64 i ∧ kx = .int .i64 ((o.length : Int) - 1 - (i : Int)) ∧ Hid (RvI o q i) ∧ Hid (OwnBG wr w.heap.size g o.length cc q) ∧ Below w.heap.size w wr) (fun ix _ _ => o.length - (intOf ix).toNat)
      case atStart => exact ⟨0, o, Nat.zero_le _, rfl, by simp, HRS, HG, hBr⟩
      case round =>
        obtain ⟨i, q, hi1, rfl, rfl, HR, HG2, hB2⟩ := hrel
        by_cases hik : i < o.length - 1 - i
        · obtain ⟨k, hk⟩ : ∃ k, k = o.length - 1 - i := ⟨_, rfl⟩
          have e1 : (o.length : Int) - 1 - (i : Int) = (k : Int) := by omega
          have hkl : k < o.length := by omega
          have hik2 : i < k := by omega
          have hne : i ≠ k := by omega
          have cx := HG2.out.cell i (by omega)
          have cy := HG2.out.cell k hkl
          have fx := HG2.out.free i
          have fy := HG2.out.free k
          have HN := HR.out.step hik
          rw [← hk] at HN
          have HN := Lib.hid HN
          have HST := Lib.hid (fun x y => (HG2.out.store i x).store k y)
          have e2 : (k : Int) - 1 = (o.length : Int) - 1 - ((i : Int) + 1) := by omega
          have E2 := Lib.hid e2
          rw [e1]
          generalize q[i]?.getD 0 = x at *
          generalize q[k]?.getD 0 = y at *
          clear hk e1 e2 hik
          go_wp2
          go_region_with (fail)
          all_goals go_wp2
          all_goals exact ⟨⟨i + 1, _, by omega, by simp, by rw [E2.out]; simp, HN, Lib.hid (HST.out _ _).drew, ((hB2.setCell (p := ⟨g, i, none⟩) hgl.1 _).setCell (p := ⟨g, k, none⟩) hgl.1 _).drew⟩, by simp [intOf]; omega⟩
        · have hfin := HRD.out q i HR.out hik
          rw [hfin] at HG2
          have hcv := HTX.out _ _ _ _ _ HG2.out
          have hik2 : ¬ (i : Int) < (o.length : Int) - 1 - (i : Int) := by omega
          go_wp2
          go_ret
          exact ⟨rfl, hB2⟩
end Go.Proofs.YthkkdepppjiaeaaGreatDoor

/- Walks of the reference of layer 1: reduce. -/
namespace Go.Proofs.YthkkdepppjiaeaaGreatDoor
open Go.RowKit

/-- What lies where in the reference's long division. -/
structure EW (w wr : World) (gf gu gv gq cf cu cv L K Q : Nat) (f u v q : List Int) : Prop where
  F : OwnG wr w.heap.size gf f.length cf f
  U : OwnG wr w.heap.size gu L cu u
  V : OwnG wr w.heap.size gv K cv v
  Q : OwnG wr w.heap.size gq Q Q q
  B : Below w.heap.size w wr
  n1 : gf ≠ gu
  n2 : gv ≠ gu
  n3 : gf ≠ gq
  n4 : gu ≠ gq
  n5 : gv ≠ gq
theorem EW.drewN {w wr : World} {gf gu gv gq cf cu cv L K Q : Nat} {f u v q : List Int} (h : EW w wr gf gu gv gq cf cu cv L K Q f u v q) (n : Nat) : EW w (wr.drewN n) gf gu gv gq cf cu cv L K Q f u v q :=
  ⟨h.F.drewN n, h.U.drewN n, h.V.drewN n, h.Q.drewN n, below_drewN h.B n, h.n1, h.n2, h.n3, h.n4, h.n5⟩
theorem EW.setU {w wr : World} {gf gu gv gq cf cu cv L K Q : Nat} {f u v q : List Int} (h : EW w wr gf gu gv gq cf cu cv L K Q f u v q) (j : Nat) (x : Int) : EW w (wr.setCell ⟨gu, j, none⟩ (.int .u32 x)) gf gu gv gq cf cu cv L K Q f (u.set j x) v q :=
  ⟨h.F.other (fun e => h.n1 e.symm) _, h.U.store j x, h.V.other (fun e => h.n2 e.symm) _, h.Q.other h.n4 _, h.B.setCell h.U.lt.1 _, h.n1, h.n2, h.n3, h.n4, h.n5⟩
theorem EW.setQ {w wr : World} {gf gu gv gq cf cu cv L K Q : Nat} {f u v q : List Int} (h : EW w wr gf gu gv gq cf cu cv L K Q f u v q) (j : Nat) (x : Int) : EW w (wr.setCell ⟨gq, j, none⟩ (.int .u32 x)) gf gu gv gq cf cu cv L K Q f u v (q.set j x) :=
  ⟨h.F.other (fun e => h.n3 e.symm) _, h.U.other (fun e => h.n4 e.symm) _, h.V.other (fun e => h.n5 e.symm) _, h.Q.store j x, h.B.setCell h.Q.lt.1 _, h.n1, h.n2, h.n3, h.n4, h.n5⟩

set_option maxRecDepth 100000 in
set_option maxHeartbeats 8000000 in
theorem re_reduce (w w0 : World) (gf gu gv gq cf cu cv L K Q : Nat) (f u v q : List Int) (U g : Int) (j : Nat)
    (hW : EW w w0 gf gu gv gq cf cu cv L K Q f u v q) (hO : DivO u q v U (j + 1)) (hG : Gf (wval (u.drop j)) (wval v) g) (hv : WOk v) (hVl : v.length = K) (hul : u.length = L) (hql : j < q.length) (hjK : j + K < L)
    (hZ : wval (u.drop (j + K + 1)) = 0) (hVp : 0 < wval v) (hW0 : 0 ≤ wval (u.drop j)) (hcu : cu ≤ 9223372036854775807) (hLc : L ≤ cu) (hcv : cv ≤ 9223372036854775807) (hKc : K ≤ cv) :
    Calls Tryz.prog 143 #[.slice (some ⟨gu, 0, none⟩) L cu, .slice (some ⟨gv, 0, none⟩) K cv, .int .i64 j, .int .u64 g] w0 fun e w' =>
      ∃ (u' : List Int) (g' : Int), e = .returned (.int .u32 g') ∧ EW w w' gf gu gv gq cf cu cv L K Q f u' v q ∧ u'.length = L ∧ DivO u' (q.set j g') v U j := by
  have HW := Lib.hid hW
  have HO := Lib.hid hO
  have HG := Lib.hid hG
  have HV := Lib.hid hv
  have HVl := Lib.hid hVl
  have HUl := Lib.hid hul
  have HQl := Lib.hid hql
  have HZ := Lib.hid hZ
  have HVp := Lib.hid hVp
  have HW0 := Lib.hid hW0
  have HSS := Lib.hid (SubI.start (v := v) g j hO.uok)
  have g0 := hG.g0
  have g1 := hG.g1
  clear hW hO hG hv hVl hul hql hZ hVp hW0
  go_enter Tryz.func143, Tryz.ntmps143
  go_wp2
  go_loopw [10, 11, 12] (fun bx cx ix wb => ∃ (i : Nat) (u' : List Int) (cc bb : Int), i ≤ K ∧ ix = .int .i64 i ∧ cx = .int .u64 cc ∧ bx = .int .i64 bb ∧ Hid (SubI u u' v g j i cc bb) ∧ Hid (EW w wb gf gu gv gq cf cu cv L K Q f u' v q)) (fun _ _ ix _ => K - (intOf ix).toNat)
  case atStart => exact ⟨0, _, 0, 0, Nat.zero_le _, rfl, rfl, rfl, HSS, HW⟩
  case round =>
    obtain ⟨i, u', cc, bb, hi, rfl, rfl, rfl, HSI, HD2⟩ := hrel
    have s1 := HSI.out.c0
    have s2 := HSI.out.c1
    have s3 := HSI.out.b0
    have s30 : 0 ≤ bb := by omega
    have s31 : bb ≤ 1 := by omega
    clear s3
    by_cases hik : i < K
    · have cy := HD2.out.U.cell (j + i) (by omega)
      have fy := HD2.out.U.free (j + i)
      have cx := HD2.out.V.cell i hik
      have gx := HV.out.getD i
      have gy := HSI.out.ok.getD (j + i)
      rw [List.getD_eq_getElem?_getD] at gx gy
      have gx0 := gx.1; have gx1 := gx.2; have gy0 := gy.1; have gy1 := gy.2
      have sf := sub_fit g0 g1 gx0 gx1 s1 s2
      have sf1 := sf.1; have sf2 := sf.2.1; have sf3 := sf.2.2.1; have sf4 := sf.2.2.2
      have ST : Hid (∀ r b' : Int, 0 ≤ r → r < 1000000000 → b' = 0 ∨ b' = 1 → r - 1000000000 * b' = u'[j + i]?.getD 0 - (g * v[i]?.getD 0 + cc) % 1000000000 - bb →
          SubI u (u'.set (j + i) r) v g j (i + 1) ((g * v[i]?.getD 0 + cc) / 1000000000) b') := Lib.hid (fun r b' h1 h2 h3 h4 =>
        HSI.out.step g0 g1 HV.out (by rw [HVl.out]; exact hik) (by have := HUl.out; omega) h1 h2 h3 h4)
      clear gx gy sf
      generalize v[i]?.getD 0 = xx at *
      generalize u'[j + i]?.getD 0 = yy at *
      have hm0 : 0 ≤ (g * xx + cc) % 1000000000 := by omega
      have hm1 : (g * xx + cc) % 1000000000 < 1000000000 := by omega
      by_cases hd : yy - (g * xx + cc) % 1000000000 - bb < 0
      · have HN := Lib.hid (ST.out (yy - (g * xx + cc) % 1000000000 - bb + 1000000000) 1 (by omega) (by omega) (.inr rfl) (by omega))
        go_wp2
        exact ⟨⟨i + 1, _, _, 1, by omega, by simp, rfl, rfl, HN, Lib.hid (HD2.out.setU (j + i) _)⟩, by simp [intOf]; omega⟩
      · have HN := Lib.hid (ST.out (yy - (g * xx + cc) % 1000000000 - bb) 0 (by omega) (by omega) (.inl rfl) (by omega))
        go_wp2
        exact ⟨⟨i + 1, _, _, 0, by omega, by simp, rfl, rfl, HN, Lib.hid (HD2.out.setU (j + i) _)⟩, by simp [intOf]; omega⟩
    · obtain rfl : K = i := by omega
      have hlast := HSI.out.last HG.out HVl.out (by have := HUl.out; omega) HZ.out HV.out
      have cl := HD2.out.U.cell (j + K) (by omega)
      have fl := HD2.out.U.free (j + K)
      rw [HSI.out.rest (j + K) (Nat.le_refl _)] at cl
      have gu0 := HO.out.uok.getD (j + K)
      rw [List.getD_eq_getElem?_getD] at gu0
      have ga := gu0.1
      have gb := gu0.2
      clear gu0
      rcases hlast with ⟨hl0, hle2⟩ | ⟨hl0, hle2⟩
      · have HR := Lib.hid (HSI.out.round HO.out HG.out HVl.out (by have := HUl.out; omega) HQl.out hl0 hle2)
        generalize u[j + K]?.getD 0 = ua at *
        have la : ua - cc - bb ≤ 0 := by omega
        have lb : 0 ≤ ua - cc - bb := by omega
        have HL0 := Lib.hid hl0
        clear hl0 hle2
        go_wp2
        go_ret
        refine ⟨u'.set (j + K) 0, g, rfl, ?_, by rw [List.length_set, HSI.out.len]; exact HUl.out, HR.out⟩
        rw [show ua - cc - bb = 0 by omega]
        exact HD2.out.setU (j + K) 0
      · have hX : (0 : Int) ≤ 999999999 ∧ (999999999 : Int) < 1000000000 := by decide
        have HAS := Lib.hid (AddI.start (v := v) j (HSI.out.ok.set (j + K) hX))
        have HLE := Lib.hid hle2
        have HL0 := Lib.hid hl0
        generalize hua : u[j + K]?.getD 0 = ua at *
        have HUA := Lib.hid hua
        have la : ua - cc - bb < 0 := by omega
        have lb : -1 ≤ ua - cc - bb := by omega
        have hE : ua - cc - bb + 1000000000 = 999999999 := by omega
        clear hl0 hle2 hua hX
        have HD3 := Lib.hid (HD2.out.setU (j + K) 999999999)
        clear cl fl
        have fl := HD2.out.U.free (j + K)
        have cl := HD2.out.U.cell (j + K) (by omega)
        rw [HSI.out.rest (j + K) (Nat.le_refl _), HUA.out] at cl
        go_wp2
        obtain ⟨wo, rfl⟩ : ∃ wo : World, wo = wr := ⟨_, rfl⟩
        clear cl fl
        go_loopw [16, 17] (fun px ix wb => ∃ (i : Nat) (u2 : List Int) (p : Int), i ≤ K ∧ ix = .int .i64 i ∧ px = .int .u32 p ∧ Hid (AddI (u'.set (j + K) 999999999) u2 v j i p) ∧ Hid (EW w wb gf gu gv gq cf cu cv L K Q f u2 v q)) (fun _ ix _ => K - (intOf ix).toNat)
        case atStart => exact ⟨0, _, 0, Nat.zero_le _, rfl, rfl, HAS, by (try rw [hE]); exact HD3⟩
        case round =>
          obtain ⟨i, u2, p, hi, rfl, rfl, HAI, HD4⟩ := hrel
          have p0 := HAI.out.p0
          have p1 := HAI.out.p1
          by_cases hik : i < K
          · have cy := HD4.out.U.cell (j + i) (by omega)
            have fy := HD4.out.U.free (j + i)
            have cx := HD4.out.V.cell i hik
            have gx := HV.out.getD i
            have gy := HAI.out.ok.getD (j + i)
            rw [List.getD_eq_getElem?_getD] at gx gy
            have gx0 := gx.1; have gx1 := gx.2; have gy0 := gy.1; have gy1 := gy.2
            have HN := HAI.out.step HV.out (by rw [HVl.out]; exact hik) (by rw [List.length_set, HSI.out.len, HUl.out]; omega)
            rw [Int.add_comm p _] at HN
            have HN := Lib.hid HN
            have hw : IntKind.i64.wrap ((j : Int) + (i : Int)) = (j : Int) + (i : Int) := IntWalk.i64_in _ (by omega)
            have hw1 : (0 : Int) ≤ (j : Int) + (i : Int) := by omega
            have hw2 : (j : Int) + (i : Int) < (L : Int) := by omega
            have hw3 : ((j : Int) + (i : Int)).toNat = j + i := by omega
            clear gx gy
            generalize v[i]?.getD 0 = xx at *
            generalize u2[j + i]?.getD 0 = yy at *
            go_wp2
            go_quiet (fail)
            go_wp2
            exact ⟨⟨i + 1, _, _, by omega, by simp, rfl, HN, Lib.hid ((HD4.out.drewN _).setU (j + i) _)⟩, by simp [intOf]; omega⟩
          · obtain rfl : K = i := by omega
            have hsl : j + K < u'.length := by rw [HSI.out.len, HUl.out]; exact hjK
            have HA1 := HAI.out.swap (Nat.le_refl _) hsl HSI.out.ok
            have hsum := AddI.last HSI.out HA1 HG.out HVl.out (by have := HUl.out; omega) HZ.out HV.out HLE.out
            have HR := AddI.round HO.out HSI.out HA1 HG.out HVl.out (by have := HUl.out; omega) HQl.out hsum HLE.out HVp.out HW0.out
            rw [List.set_set] at HR
            have hgm := HR.2
            have HR := Lib.hid HR.1
            have cl := HD4.out.U.cell (j + K) (by omega)
            have fl := HD4.out.U.free (j + K)
            rw [HAI.out.rest (j + K) (Nat.le_refl _), List.getElem?_set_self hsl] at cl
            simp only [Option.getD_some] at cl
            rw [HUA.out] at hsum
            obtain rfl : p = 1 := by omega
            have hg1 : g - 1 < 1000000000 := by omega
            have HL2 := Lib.hid (show u2.length = L by have := HAI.out.len; rw [this, List.length_set, HSI.out.len]; exact HUl.out)
            clear hsum HA1
            go_wp2
            go_ret
            exact ⟨u2.set (j + K) 0, g - 1, rfl, HD4.out.setU (j + K) 0, by rw [List.length_set]; exact HL2.out, HR.out⟩
end Go.Proofs.YthkkdepppjiaeaaGreatDoor
