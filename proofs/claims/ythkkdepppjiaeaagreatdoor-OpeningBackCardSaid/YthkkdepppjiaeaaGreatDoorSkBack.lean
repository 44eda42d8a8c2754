/- A PART OF THE PROOF, JOINED OUT OF 4 TEXTS. -/
import Derived.Test.YthkkdepppjiaeaaGreatDoorSjBack
import Derived.Test.YthkkdepppjiaeaaGreatDoorPfText
import Derived.Lib.CutLaws
import Derived.Test.YthkkdepppjiaeaaGreatDoorSgChecks
import Derived.Test.YthkkdepppjiaeaaGreatDoorPkVector
import Derived.Test.YthkkdepppjiaeaaGreatDoorRgExtent
import Derived.Sort.CutIn
/- The program's package opening: lines, the iterator's contract. -/
namespace Go.Proofs.YthkkdepppjiaeaaGreatDoor
open Go.RowKit Go.Shelf

attribute [local go_sem] Oper.semAt_some

theorem ba_empty {s : ByteArray} (h : s.size = 0) : s = ⟨#[]⟩ := by
  obtain ⟨⟨m⟩⟩ := s
  have : m.length = 0 := h
  rw [List.length_eq_zero_iff] at this
  rw [this]
/-- The size of the text in a box. -/
def strSz : Option Value → Nat
  | some (.string t) => t.size
  | _ => 0
def lnMs (b : Nat) (w : World) : Nat := strSz (w.cell? ⟨b, 0, none⟩)
theorem lnMs_of {b : Nat} {w : World} {t : ByteArray} {T : TypeId} (h : w.heap[b]? = some (.cells #[.string t] T (0, 0))) : lnMs b w = t.size := by
  unfold lnMs
  rw [cell_of_one h]
  rfl
/-- A text's first line, what is behind it, and whether the line has its end. -/
noncomputable def lnCut (s : ByteArray) : ByteArray × ByteArray × Bool := (⟨(Lib.cut s.data.toList [10]).1.toArray⟩, ⟨(Lib.cut s.data.toList [10]).2.1.toArray⟩, (Lib.cut s.data.toList [10]).2.2)
/-- What is left of a text behind its first k lines. -/
noncomputable def lnRest (s : ByteArray) : Nat → ByteArray
  | 0 => s
  | k + 1 => (lnCut (lnRest s k)).2.1
/-- The k-th line, and whether it has its end. -/
noncomputable def lnAt (s : ByteArray) (k : Nat) : ByteArray × Bool := ((lnCut (lnRest s k)).1, (lnCut (lnRest s k)).2.2)
theorem lnCut_hit (s : ByteArray) (i : Nat) (h : Lib.indexB s ⟨#[10]⟩ = i) : lnCut s = (s.extract 0 i, s.extract (i + 1) s.size, true) := by
  obtain ⟨h1, h2, h3⟩ := Lib.cutB_hit s ⟨#[10]⟩ i h
  exact Prod.ext h1 (Prod.ext h2 h3)
theorem lnCut_miss (s : ByteArray) (h : Lib.indexB s ⟨#[10]⟩ = -1) : lnCut s = (s, ByteArray.empty, false) := by
  obtain ⟨h1, h2, h3⟩ := Lib.cutB_miss s ⟨#[10]⟩ h
  exact Prod.ext h1 (Prod.ext h2 h3)
theorem lnCut_less (s : ByteArray) (h : 0 < s.size) : (lnCut s).2.1.size < s.size ∧ (lnCut s).1.size ≤ s.size := by
  rcases Lib.indexB_cases s ⟨#[10]⟩ with e | ⟨i, e, hi⟩
  · rw [lnCut_miss s e]
    exact ⟨h, Nat.le_refl _⟩
  · rw [lnCut_hit s i e]
    have h1 : (⟨#[10]⟩ : ByteArray).size = 1 := rfl
    simp only [ByteArray.size_extract]
    omega
theorem lnRest_size (s : ByteArray) : ∀ k, (∀ j, j < k → 0 < (lnRest s j).size) → (lnRest s k).size + k ≤ s.size
  | 0, _ => Nat.le_refl _
  | k + 1, h => by
    have h1 := lnRest_size s k (fun j hj => h j (by omega))
    have h2 := (lnCut_less (lnRest s k) (h k (by omega))).1
    show (lnCut (lnRest s k)).2.1.size + (k + 1) ≤ s.size
    omega

set_option maxRecDepth 100000 in
set_option maxHeartbeats 4000000 in
theorem lines1_in (l Bs n₀ : Nat) (s : ByteArray) (hs : s.size ≤ 100000) (V : World) (hV : EnvB V) (hn₀ : V.heap.size = n₀) (hBn : n₀ ≤ Bs) (J Jx : List (ByteArray × Bool) → World → Prop)
    (hY : ∀ pre x W, J pre W → pre.length < s.size → x.1.size ≤ s.size → YieldAt Fence.wide 3 Tryz.prog l #[.string x.1, .bool x.2] W fun e W' =>
      (e = .returned (.bool true) ∧ J (pre ++ [x]) W' ∧ KpB n₀ Bs W W') ∨ (e = .returned (.bool false) ∧ Jx (pre ++ [x]) W'))
    (hd : ∀ pre W, J pre W → ∀ n, J pre (W.drewN n)) (hdc : ∀ pre W v, J pre W → J pre (W.setCell ⟨Bs, 0, none⟩ v))
    (W : World) (hVW : Below n₀ V W) (hBs : W.heap[Bs]? = some (.cells #[.string s] 9 (0, 0))) (h0 : J [] W) :
    CallsIn Fence.wide 4 Tryz.prog 134 #[.func (.yield l) #[] #[], .pointer (some ⟨Bs, 0, none⟩)] W fun e W' => (∃ v, e = .returned v) ∧
      ((∃ ys, (∃ k, ys = upto (lnAt s) k ∧ (∀ j, j < k → 0 < (lnRest s j).size) ∧ (lnRest s k).size = 0) ∧ J ys W') ∨ (∃ pre, (∃ k, pre = upto (lnAt s) k ∧ ∀ j, j < k → 0 < (lnRest s j).size) ∧ Jx pre W')) := by
  have HBs := Lib.hid hBs
  clear hBs
  refine callsIn_of_wp Tryz.func134 rfl trivial ?_ rfl
  simp only [Tryz.ntmps134, List.size_toArray, List.length_cons, List.length_nil, Nat.reduceAdd, Nat.reduceSub, Array.replicate_succ, Array.replicate_zero, List.push_toArray, List.append_toArray, List.nil_append, List.cons_append]
  gi_wp2
  gi_loopw [] (fun wr => ∃ k : Nat, J (upto (lnAt s) k) wr ∧ Below n₀ V wr ∧ Hid (wr.heap[Bs]? = some (.cells #[.string (lnRest s k)] 9 (0, 0))) ∧ Hid (∀ j, j < k → 0 < (lnRest s j).size))
    (fun wr => lnMs Bs wr)
  case atStart => exact ⟨0, h0, hVW, HBs, Lib.hid (fun j hj => absurd hj (by omega))⟩
  case round =>
    obtain ⟨k, hJs, hnx, hbx, hpos⟩ := hrel
    by_cases h00 : (lnRest s k).size = 0
    · have e0 : lnRest s k = ⟨#[]⟩ := by
        exact ba_empty h00
      have HZ := Lib.hid h00
      clear h00
      have cb : wr.cell? ⟨Bs, 0, none⟩ = some (.string ⟨#[]⟩) := by rw [← e0]; exact cell_of_one hbx.out
      have HJ := Lib.hid hJs
      clear e0 hbx hY hd hdc hJs
      gi_wp2
      go_end0
      exact ⟨⟨_, rfl⟩, .inl ⟨_, ⟨k, rfl, hpos.out, HZ.out⟩, HJ.out⟩⟩
    · obtain ⟨t, ht⟩ : ∃ t, t = lnRest s k := ⟨_, rfl⟩
      have hsz := lnRest_size s k hpos.out
      have hcut := lnCut_less (lnRest s k) (by omega)
      have hx1 : lnAt s k = ((lnCut (lnRest s k)).1, (lnCut (lnRest s k)).2.2) := rfl
      have hx2 : lnRest s (k + 1) = (lnCut (lnRest s k)).2.1 := rfl
      have hpos2 : ∀ j, j < k + 1 → 0 < (lnRest s j).size := fun j hj => by
        by_cases e : j = k
        · rw [e]; omega
        · exact hpos.out j (by omega)
      have hC := Tryz.strings_Cut_shaped t ⟨#[10]⟩
      have hE := (hV.below (hn₀ ▸ hnx)).env.shape
      rw [← ht] at hsz hcut hx1 hx2 hbx h00
      obtain ⟨c1, c2, c3, hc⟩ : ∃ c1 c2 c3, lnCut t = (c1, c2, c3) := ⟨_, _, _, rfl⟩
      have hc' := hc
      unfold lnCut at hc'
      simp only [Prod.mk.injEq] at hc'
      obtain ⟨q1, q2, q3⟩ := hc'
      rw [show (⟨#[10]⟩ : ByteArray).data.toList = [10] from rfl, q1, q2, q3] at hC
      rw [hc] at hx1 hx2 hcut
      have tne : (t.toList == ([] : List UInt8)) = false := by
        rw [beq_eq_false_iff_ne, Lib.toList_data]
        intro e
        have : t.size = 0 := by show t.data.size = 0; rw [← Array.length_toList, e]; rfl
        exact h00 this
      have HC := Lib.hid (hC wr hE (by omega))
      have H1 := Lib.hid hx1
      have H2 := Lib.hid hx2
      have HS := Lib.hid hsz
      have HK := Lib.hid hcut.1
      have HK2 := Lib.hid (show c1.size ≤ s.size from Nat.le_trans hcut.2 (by omega))
      have HP := Lib.hid hpos2
      have HT0 := Lib.hid h00
      have HY := Lib.hid hY
      have HD := Lib.hid hd
      have HDC := Lib.hid hdc
      have HJ := Lib.hid hJs
      have cb : wr.cell? ⟨Bs, 0, none⟩ = some (.string t) := cell_of_one hbx.out
      clear hC hE hx1 hx2 hsz hcut hpos2 hpos hc q1 q2 q3 ht h00 hY hd hdc hJs
      gi_wp2_with fail
      refine ⟨trivial, ?_⟩
      refine (callsIn_wide.2 HC.out).mono ?_
      rintro e w2 ⟨rfl, m, rfl⟩
      have hlen : (upto (lnAt s) k).length < s.size := by
        rw [upto_length]
        have := HS.out
        have := HT0.out
        omega
      obtain ⟨fn, tmps, assign, body, hy, hR⟩ := HY.out _ (c1, c3) (wr.drewN m) (HD.out _ _ HJ.out m) hlen HK2.out
      dsimp only at hy
      have HN := Lib.hid hnx
      clear HC hlen hnx
      gi_wp2
      refine hR.mono ?_
      rintro e w3 (⟨rfl, hJ3, hk3⟩ | ⟨rfl, hJx3⟩)
      · have hk4 : Below n₀ V w3 := HN.out.trans ((show Below n₀ wr (wr.drewN m) from ⟨rfl, rfl, rfl, Nat.le_refl _, fun _ _ => rfl⟩).trans hk3.2)
        have hk5 : w3.heap[Bs]? = some (.cells #[.string t] 9 (0, 0)) := hk3.1.trans hbx.out
        obtain ⟨cb3, fb3⟩ := row1 hk5
        have HK5 := Lib.hid hk5
        clear hk3 hk5 cb
        gi_wp2
        go_roundw
        case rel =>
          refine ⟨k + 1, HDC.out _ _ _ (by rw [upto_succ, H1.out]; exact hJ3), hk4.setCell (p := ⟨Bs, 0, none⟩) hBn _, Lib.hid ?_, HP⟩
          rw [H2.out]
          have := heap_setCell_same w3 Bs 0 _ _ (.string c2) HK5.out
          simpa using this
        case measure =>
          have e1 : lnMs Bs (w3.setCell ⟨Bs, 0, none⟩ (.string c2)) = c2.size := lnMs_of (by
            have := heap_setCell_same w3 Bs 0 _ _ (.string c2) HK5.out
            simpa using this)
          have e2 := lnMs_of hbx.out
          have := HK.out
          omega
      · gi_wp2
        refine bodyPost_ret (results_none rfl _ _ _) rfl ?_
        exact ⟨⟨_, rfl⟩, .inr ⟨_, ⟨k + 1, by rw [upto_succ, H1.out], HP.out⟩, hJx3⟩⟩
end Go.Proofs.YthkkdepppjiaeaaGreatDoor

/- A range over the lines of a text: the loop's law, for an iterator that writes its own box between two rounds. -/
namespace Go.Proofs.YthkkdepppjiaeaaGreatDoor
open Go.RowKit Go.Shelf

attribute [local go_sem] Oper.semAt_some

set_option maxRecDepth 100000 in
theorem op_lines (s : ByteArray) (w : World) : Calls Tryz.prog 93 #[.string s] w fun e w' =>
    e = .returned (.func (.func 134) #[] #[.pointer (some ⟨w.heap.size, 0, none⟩)]) ∧ w' = w.alloc (.cells #[.string s] 9) := by
  go_enter Tryz.func93, Tryz.ntmps93
  go_wp2_with fail
  go_ret
  exact ⟨rfl, rfl⟩

theorem grown_ret {B : Nat} {I : List (ByteArray × Bool) → World → Prop} (h : OwnFrom B I) (c : Code) : OwnFrom B (fun xs W => c = .ret ∧ I xs W) := fun s W W' row hs hg hr => ⟨hs.1, h s W W' row hs.2 hg hr⟩

theorem kpB_put {n₀ Bs L : Nat} {w W : World} {o o' : Obj} (hn : n₀ ≤ w.heap.size) (hb : Bs < w.heap.size) (hL : w.heap.size ≤ L) (h : W.heap[L]? = some o) (h1 : o.isCells = false) (h2 : o.isWalk = false) : KpB n₀ Bs W (W.putObj L o') :=
  ⟨World.putObj_heap_other (by omega), belowK_b hn W L o o' hL h h1 h2⟩
set_option maxRecDepth 100000 in
set_option maxHeartbeats 1000000 in
theorem wpIn_lines {g : Operand} {ps : Array Tmp} {assign body : Code} {Q : Exit → Act → World → Prop} {a : Act} {w V : World} {Bs : Nat} {s : ByteArray} (hs : s.size ≤ 100000) (hV : EnvB V) (hBn : V.heap.size ≤ Bs) (hVw : Below V.heap.size V w)
    (hBs : w.heap[Bs]? = some (.cells #[.string s] 9 (0, 0))) (hg : a.eval g = .func (.func 134) #[] #[.pointer (some ⟨Bs, 0, none⟩)]) (hps : ps.size = 2)
    (I Ix : List (ByteArray × Bool) → World → Prop) (hI : OwnFrom w.heap.size I) (hIx : OwnFrom w.heap.size Ix) (hId : ∀ pre W n, I pre W → I pre (W.drewN n)) (hIs : ∀ pre W v, I pre W → I pre (W.setCell ⟨Bs, 0, none⟩ v))
    (h0 : I [] w) (a₁ : ByteArray × Bool → Act)
    (hassign : ∀ (l : Nat) (x : ByteArray × Bool) (W : World) (K : Act → World → Prop), K (a₁ x) W →
      assign.wpIn (Fence.wide.inRound l) 3 Tryz.prog (Exit.then K (fun _ _ _ => False)) { tmps := (ps.zip #[Value.string x.1, Value.bool x.2]).foldl (fun t (p, v) => t.setIfInBounds p v) a.tmps, defers := [] } W)
    (hbody : ∀ (l : Nat) (pre : List (ByteArray × Bool)) (x : ByteArray × Bool) (W : World), I pre W → pre.length < s.size → x.1.size ≤ s.size → body.wpIn (Fence.wide.inRound l) 3 Tryz.prog (ownPostG w.heap.size (KpB V.heap.size Bs) I (fun c xs W => c = .ret ∧ Ix xs W) (pre ++ [x]) W) (a₁ x) W)
    (hdone : ∀ (D k : Nat) (W : World), w.heap.size ≤ D → (∀ j, j < k → 0 < (lnRest s j).size) → (lnRest s k).size = 0 → I (upto (lnAt s) k) W → W.heap[D]? = some (.deferred (some [])) → Q .normal { a with defers := { target := .collected D, args := #[] } :: a.defers } W)
    (hstop : ∀ (D k : Nat) (W : World), w.heap.size ≤ D → (∀ j, j < k → 0 < (lnRest s j).size) → Ix (upto (lnAt s) k) W → W.heap[D]? = some (.deferred (some [])) → Code.ret.wpIn Fence.wide 5 Tryz.prog Q { a with defers := { target := .collected D, args := #[] } :: a.defers } W) :
    (Code.rangeFunc g ps assign body).wpIn Fence.wide 5 Tryz.prog Q a w := by
  have hB1 : Bs < w.heap.size := lt_of_row hBs
  refine wpIn_rangeFunc fun fn hfn => ?_
  obtain ⟨rc, hrc⟩ : ∃ rc : LoopState → Option Code → Loop, ∀ st pe, rc st pe = { state := st, pending := pe, fn, tmps := a.tmps, params := ps, assign, body, defers := w.heap.size } := ⟨_, fun _ _ => rfl⟩
  obtain ⟨W1, hW1⟩ : ∃ W1, (w.alloc (.deferred (some []))).alloc (.loop (rc .ready none)) = W1 := ⟨_, rfl⟩
  obtain ⟨hbA, hszA, rD, rL⟩ := A2 hW1
  obtain ⟨L, hL⟩ : ∃ L, L = w.heap.size + 1 := ⟨_, rfl⟩
  obtain ⟨D, hD⟩ : ∃ D, D = w.heap.size := ⟨_, rfl⟩
  rw [← hL] at rL
  rw [← hD] at rD
  have hstore : ∀ (W : World) (v : Value) (k : Nat) (o : Obj), D ≤ k → W.heap[k]? = some o → (W.setCell ⟨Bs, 0, none⟩ v).heap[k]? = some o := fun W v k o hk h =>
    (heap_setCell_other W ⟨Bs, 0, none⟩ k v (by show k ≠ Bs; omega)).trans h
  refine ⟨L, [{ target := .collected D, args := #[] }], W1, { target := .fn (.func 134) #[.pointer (some ⟨Bs, 0, none⟩)], args := #[.func (.yield L) #[] #[]] }, W1, 134,
    #[.func (.yield L) #[] #[], .pointer (some ⟨Bs, 0, none⟩)], W1, ?_, ?_, ?_, ?_, fun _ => by decide, ?_⟩
  · rw [← hW1, hL, hD, hrc]
    exact run_enterLoop_outer _ _ _ _ _
  · simp only [resolve, hg]
    simp [go_sem]
  · intro f' _
    trivial
  · simp [invoke, go_sem]
  · refine (lines1_in L Bs V.heap.size s hs V hV rfl hBn
      (fun pre W => I pre W ∧ W.heap[L]? = some (.loop (rc .ready none)) ∧ W.heap[D]? = some (.deferred (some [])))
      (fun pre W => Ix pre W ∧ W.heap[L]? = some (.loop (rc .done (some .ret))) ∧ W.heap[D]? = some (.deferred (some [])))
      ?_ (fun pre W h n => ⟨hId _ _ _ h.1, h.2.1, h.2.2⟩) (fun pre W v h => ⟨hIs _ _ _ h.1, hstore _ _ _ _ (by omega) h.2.1, hstore _ _ _ _ (by omega) h.2.2⟩)
      W1 (hVw.trans (hbA.mono hVw.size)) ((hbA.block Bs hB1).trans hBs) ⟨?_, rL, rD⟩).mono ?_
    · rintro pre x W ⟨hi, hl, hk⟩ hlen hx
      have hLt : L < W.heap.size := lt_of_row hl
      have hy := run_yield (P := Tryz.prog) (args := #[Value.string x.1, .bool x.2]) hl (by rw [hrc]; exact hps.symm)
      rw [hrc] at hy
      refine ⟨fn, _, assign, body, hy, roundIn_of_wpIn hfn (hassign L x W _ ⟨_, run_beginRound hl (by rw [hrc]), ?_⟩)⟩
      obtain ⟨rb, hrb⟩ : ∃ rb : Loop, rb = { rc .ready none with state := .busy } := ⟨_, rfl⟩
      rw [← hrb]
      obtain ⟨Y, hY⟩ : ∃ Y, Y = W.putObj L (.loop rb) := ⟨_, rfl⟩
      have hlY : Y.heap[L]? = some (.loop rb) := by rw [hY]; exact World.putObj_heap_same hLt
      have hkY : Y.heap[D]? = some (.deferred (some [])) := by rw [hY]; exact (World.putObj_heap_other (by omega)).trans hk
      have hKY : KpB V.heap.size Bs W Y := by rw [hY]; exact kpB_put (w := w) hVw.size hB1 (by omega) hl rfl rfl
      have hiY : I pre Y := by rw [hY]; exact hI.putObj _ hi (by omega) hl rfl
      rw [← hY]
      have hend : ∀ (j : Option Code) (Z : World), KeepsFrom w.heap.size Y Z → Z.heap[L]? = some (.loop rb) ∧
          (Instr.endRound L j).run Tryz.prog Z = .ok (.bool j.isNone) (Z.putObj L (.loop (rc (if j.isNone then .ready else .done) j))) ∧
          (Z.putObj L (.loop (rc (if j.isNone then .ready else .done) j))).heap[L]? = some (.loop (rc (if j.isNone then .ready else .done) j)) ∧
          (Z.putObj L (.loop (rc (if j.isNone then .ready else .done) j))).heap[D]? = some (.deferred (some [])) := fun j Z hZ => by
        have h1 := hZ.same L _ (by omega) hlY rfl
        have h2 := hZ.same D _ (by omega) hkY rfl
        have h3 := run_endRound (P := Tryz.prog) j h1
        rw [hrb, hrc] at h3
        refine ⟨h1, ?_, World.putObj_heap_same (lt_of_row h1), (World.putObj_heap_other (by omega)).trans h2⟩
        rw [h3, hrc]
      refine wpIn_mono (hbody L pre x Y hiY hlen hx) ?_
      rintro ex a3 Z hp
      cases ex with
      | normal =>
        obtain ⟨hZ, hKZ, hiZ⟩ := hp
        obtain ⟨e1, e2, e3, e4⟩ := hend none Z hZ
        exact ⟨_, _, e2, .inl ⟨rfl, ⟨hI.putObj _ hiZ (by omega) e1 rfl, e3, e4⟩, (hKY.trans hKZ).trans (kpB_put (w := w) hVw.size hB1 (by omega) e1 rfl rfl)⟩⟩
      | ret =>
        obtain ⟨hZ, _, hiZ⟩ := hp
        obtain ⟨e1, e2, e3, e4⟩ := hend (some .ret) Z hZ
        exact ⟨_, _, e2, .inr ⟨rfl, hIx.putObj _ hiZ (by omega) e1 rfl, e3, e4⟩⟩
      | exit id =>
        obtain ⟨_, e, _⟩ := hp
        cases e
      | goto t =>
        obtain ⟨_, e, _⟩ := hp
        cases e
      | panic c => exact hp.elim
      | outgrown => exact hp.elim
    · rw [← hW1]
      exact hI.alloc _ (hI.alloc _ h0)
    · rintro e W2 ⟨⟨v, rfl⟩, (⟨ys, ⟨k, rfl, hk1, hk2⟩, hi, hl, hk⟩ | ⟨pre, ⟨k, rfl, hk1⟩, hi, hl, hk⟩)⟩
      · have h1 := run_endLoop (P := Tryz.prog) hl (by rw [hrc]; simp)
        exact ⟨none, _, by rw [h1, hrc], by rw [← hD]; exact hdone D k _ (by omega) hk1 hk2 (hI.putObj _ hi (by omega) hl rfl) ((World.putObj_heap_other (by omega)).trans hk)⟩
      · have h1 := run_endLoop (P := Tryz.prog) hl (by rw [hrc]; simp)
        exact ⟨some .ret, _, by rw [h1, hrc], hstop D k _ (by omega) hk1 (hIx.putObj _ hi (by omega) hl rfl) ((World.putObj_heap_other (by omega)).trans hk)⟩
end Go.Proofs.YthkkdepppjiaeaaGreatDoor

/- The program's package opening: Parse: what it keeps. -/
namespace Go.Proofs.YthkkdepppjiaeaaGreatDoor
open Go.RowKit Go.Shelf

/-- An opening's cells. -/
def opCs (o : Opn) : List Value := [.int .i64 o.id, .int .i64 o.frm, .int .i64 o.dst, .int .i64 o.kind, .string o.pt.1, .string o.pt.2.1, .string o.pt.2.2]
def osCs (os : List Opn) : List Value := os.flatMap opCs
def osAt (os : List Opn) (i : Nat) : Opn := os[i]?.getD ⟨0, 0, 0, 0, (⟨#[]⟩, ⟨#[]⟩, ⟨#[]⟩)⟩
theorem osCs_len (os : List Opn) : (osCs os).length = os.length * 7 := by
  induction os with
  | nil => rfl
  | cons o os ih =>
    show (opCs o ++ osCs os).length = _
    rw [List.length_append, ih]
    show 7 + _ = _
    rw [List.length_cons]
    omega
theorem osCs_snoc (os : List Opn) (o : Opn) : osCs (os ++ [o]) = osCs os ++ opCs o := by
  unfold osCs
  rw [List.flatMap_append]
  simp
theorem osCs_get : ∀ (os : List Opn) (i j : Nat), i < os.length → j < 7 → (osCs os)[i * 7 + j]? = (opCs (osAt os i))[j]?
  | [], i, j, h, _ => absurd h (by simp)
  | o :: os, 0, j, _, hj => by
    show (opCs o ++ osCs os)[0 * 7 + j]? = (opCs o)[j]?
    rw [show 0 * 7 + j = j by omega, List.getElem?_append_left (by show j < 7; omega)]
  | o :: os, i + 1, j, h, hj => by
    have hl : (opCs o).length = 7 := rfl
    show (opCs o ++ osCs os)[(i + 1) * 7 + j]? = (opCs (osAt os i))[j]?
    rw [List.getElem?_append_right (by omega), hl, show (i + 1) * 7 + j - 7 = i * 7 + j by omega]
    exact osCs_get os i j (by simpa using h) hj
/-- A line that was read. -/
def RdOk (x : ByteArray × Bool) (o : Opn) : Prop := x.2 = true ∧ RdL x.1 o
/-- What the loop keeps: the results' cells, the count, the list. -/
def PSt (B : Nat) (os : List Opn) (W : World) : Prop :=
  (Boxed W B 62 (.slice none 0 0) ∧ Boxed W (B + 1) 3 (.int .i64 0) ∧ Boxed W (B + 2) 37 (.int .i64 0) ∧ Boxed W (B + 4) 3 (.int .i64 (os.length : Int)) ∧ ∃ u, Boxed W (B + 5) 9 u) ∧
    ∃ v, Boxed W (B + 3) 62 v ∧ W.ownsRow B 26 7 v os.length (osCs os)
theorem boxed_own {W W' : World} {row : Option Nat} {b : Nat} {t : TypeId} {v : Value} (h : Boxed W b t v) (hg : W.grownBy W' row) (hr : ∀ r, row = some r → ∃ o : Obj, W.heap[r]? = some o ∧ o.isCells = false) : Boxed W' b t v :=
  h.kept hg (fun e => by
    obtain ⟨o, ho, hc⟩ := hr b e.symm
    rw [show W.heap[b]? = _ from h] at ho
    cases ho
    cases hc)
theorem PSt.own {B : Nat} {os : List Opn} {W W' : World} {row : Option Nat} (h : PSt B os W) (hg : W.grownBy W' row) (hr : ∀ r, row = some r → ∃ o : Obj, W.heap[r]? = some o ∧ o.isCells = false) : PSt B os W' := by
  obtain ⟨⟨h0, h1, h2, h4, u, h5⟩, h3⟩ := h
  exact ⟨⟨boxed_own h0 hg hr, boxed_own h1 hg hr, boxed_own h2 hg hr, boxed_own h4 hg hr, u, boxed_own h5 hg hr⟩, by
    obtain ⟨v, a, b, _⟩ := holdsRow_own (β := Unit) B (B + 3) 62 26 7 (fun _ => os.length) (fun _ => osCs os) (fun _ _ => True) () W W' row (by
      obtain ⟨v, a, b⟩ := h3
      exact ⟨v, a, b, trivial⟩) hg hr
    exact ⟨v, a, b⟩⟩
theorem PSt.drewN {B : Nat} {os : List Opn} {W : World} (h : PSt B os W) (n : Nat) : PSt B os (W.drewN n) := h
theorem boxed_other {W : World} {b b' : Nat} {t : TypeId} {v v' : Value} (h : Boxed W b t v) (hne : b ≠ b') : Boxed (W.setCell ⟨b', 0, none⟩ v') b t v :=
  (heap_setCell_other W ⟨b', 0, none⟩ b v' hne).trans h
theorem PSt.box {B : Nat} {os : List Opn} {W : World} (h : PSt B os W) (u' : Value) : PSt B os (W.setCell ⟨B + 5, 0, none⟩ u') := by
  obtain ⟨⟨h0, h1, h2, h4, u, h5⟩, v, h3, h6⟩ := h
  exact ⟨⟨boxed_other h0 (by omega), boxed_other h1 (by omega), boxed_other h2 (by omega), boxed_other h4 (by omega), u', h5.set u'⟩, v, boxed_other h3 (by omega), h6.kept (grownBy_setCell' W (B + 5) u') (.inr (h5.not_row (by decide) h6).symm)⟩
/-- The list's cells, one by one. -/
theorem owns_opsAt {W : World} {B : Nat} {os : List Opn} {v : Value} (h : W.ownsRow B 26 7 v os.length (osCs os)) : ∃ A b c, v = .slice A os.length c ∧ (0 < os.length → A = some ⟨b, 0, none⟩) ∧ OpsAt W b 0 os.length (osAt os) := by
  rcases h.2 with ⟨rfl, h0⟩ | ⟨g, cap, cur, rfl, _, hg, _, _, hc, ht⟩
  · exact ⟨none, 0, 0, by rw [h0], fun k => absurd k (by omega), fun i hi => absurd hi (by omega)⟩
  · refine ⟨_, g, cap, rfl, fun _ => rfl, fun i hi => ?_⟩
    have hcell : ∀ j, j < 7 → W.cell? ⟨g, 0 + i * 7 + j, none⟩ = (opCs (osAt os i))[j]? := fun j hj => by
      rw [← osCs_get os i j hi hj, ← ht, List.getElem?_take, if_pos (by omega), Array.getElem?_toList]
      simp [World.cell?, hg]
    exact ⟨hcell 0 (by omega), hcell 1 (by omega), hcell 2 (by omega), hcell 3 (by omega), hcell 4 (by omega), hcell 5 (by omega), hcell 6 (by omega)⟩
end Go.Proofs.YthkkdepppjiaeaaGreatDoor

/- The program's package opening: Parse: the walk. -/
namespace Go.Proofs.YthkkdepppjiaeaaGreatDoor
open Go.RowKit Go.Shelf

attribute [local go_sem] Oper.semAt_some

/-- Lines that were read, as these openings. -/
def RdsOk : List (ByteArray × Bool) → List Opn → Prop
  | [], [] => True
  | x :: xs, o :: os => RdOk x o ∧ RdsOk xs os
  | _, _ => False
theorem RdsOk.snoc : ∀ {xs : List (ByteArray × Bool)} {os : List Opn} {x : ByteArray × Bool} {o : Opn}, RdsOk xs os → RdOk x o → RdsOk (xs ++ [x]) (os ++ [o])
  | [], [], _, _, _, h => ⟨h, trivial⟩
  | _ :: _, _ :: _, _, _, h, h' => ⟨h.1, RdsOk.snoc h.2 h'⟩
  | [], _ :: _, _, _, h, _ => h.elim
  | _ :: _, [], _, _, h, _ => h.elim
theorem RdsOk.len : ∀ {xs : List (ByteArray × Bool)} {os : List Opn}, RdsOk xs os → os.length = xs.length
  | [], [], _ => rfl
  | _ :: _, _ :: _, h => by simp [RdsOk.len h.2]
  | [], _ :: _, h => h.elim
  | _ :: _, [], h => h.elim
/-- The openings that a text's lines are, all of them read. -/
def RdAll (s : ByteArray) (os : List Opn) : Prop := ∃ k, (∀ j, j < k → 0 < (lnRest s j).size) ∧ (lnRest s k).size = 0 ∧ RdsOk (upto (lnAt s) k) os
/-- What Parse keeps from round to round. -/
def PaI (w : World) (pre : List (ByteArray × Bool)) (W : World) : Prop := ∃ os, RdsOk pre os ∧ PSt w.heap.size os W ∧ Below w.heap.size w W
/-- What it leaves at a line that it does not read. -/
def PaX (w : World) (pre : List (ByteArray × Bool)) (W : World) : Prop := ∃ (p0 : List (ByteArray × Bool)) (x : ByteArray × Bool), pre = p0 ++ [x] ∧ (∀ o, ¬ RdOk x o) ∧ Boxed W w.heap.size 62 (.slice none 0 0) ∧ Boxed W (w.heap.size + 1) 3 (.int .i64 (p0.length : Int)) ∧ Boxed W (w.heap.size + 2) 37 (.int .i64 3) ∧ Below w.heap.size w W
theorem PSt.below {w W W' : World} {os : List Opn} (h : PSt w.heap.size os W) (_ : Below w.heap.size w W) (hb : Below W.heap.size W W') : PSt w.heap.size os W' := by
  obtain ⟨⟨h0, h1, h2, h4, u, h5⟩, v, h3, h6⟩ := h
  exact ⟨⟨keep hb h0, keep hb h1, keep hb h2, keep hb h4, u, keep hb h5⟩, v, keep hb h3, owns_below h6 hb⟩
theorem pa_bad {w w2 Z : World} {m a b : Value} {c : Value} (hZ : (((w2.setCell ⟨w.heap.size, 0, none⟩ (.slice none 0 0)).setCell ⟨w.heap.size + 1, 0, none⟩ m).setCell ⟨w.heap.size + 2, 0, none⟩ (.int .i64 3)).drew = Z)
    (q0 : Boxed w2 w.heap.size 62 a) (q1 : Boxed w2 (w.heap.size + 1) 3 b) (q2 : Boxed w2 (w.heap.size + 2) 37 c) (hB : Below w.heap.size w w2) :
    Boxed Z w.heap.size 62 (.slice none 0 0) ∧ Boxed Z (w.heap.size + 1) 3 m ∧ Boxed Z (w.heap.size + 2) 37 (.int .i64 3) ∧ Below w.heap.size w Z ∧ KeepsOthers w2 Z := by
  subst hZ
  refine ⟨boxed_other (boxed_other (q0.set _) (by omega)) (by omega), boxed_other ((boxed_other q1 (by omega)).set _) (by omega), (boxed_other (boxed_other q2 (by omega)) (by omega)).set _, ?_, ?_⟩
  · exact ((((hB.setCell (p := ⟨w.heap.size, 0, none⟩) (Nat.le_refl _) _).setCell (p := ⟨w.heap.size + 1, 0, none⟩) (Nat.le_succ _) _).setCell (p := ⟨w.heap.size + 2, 0, none⟩) (Nat.le_add_right _ _) _).drew)
  · exact (((KeepsOthers.setCell _ _ _).trans (KeepsOthers.setCell _ _ _)).trans (KeepsOthers.setCell _ _ _)).trans ⟨Nat.le_refl _, fun _ _ h _ => h⟩
theorem pa_good {w w2 w3 : World} {os : List Opn} {o : Opn} {v v' u : Value} {tmp : Obj} (h : PSt w.heap.size os w2) (q3 : Boxed w2 (w.heap.size + 3) 62 v) (q6 : w2.ownsRow w.heap.size 26 7 v os.length (osCs os)) (q5 : Boxed w2 (w.heap.size + 5) 9 u) (hw : w.heap.size ≤ w2.heap.size)
    (hown : w3.ownsRow w.heap.size 26 7 v' (os.length + 1) (osCs os ++ opCs o)) (hgrow : (w2.alloc tmp).grownBy w3 v.ownBlock) :
    (Boxed w3 (w.heap.size + 3) 62 v ∧ Boxed w3 (w.heap.size + 4) 3 (.int .i64 (os.length : Int))) ∧ ∀ Z, Z = (w3.setCell ⟨w.heap.size + 3, 0, none⟩ v').setCell ⟨w.heap.size + 4, 0, none⟩ (.int .i64 ((os.length : Int) + 1)) →
      PSt w.heap.size (os ++ [o]) Z ∧ Boxed Z (w.heap.size + 5) 9 u ∧ Below w.heap.size w2 Z ∧ KeepsOthers w2 Z := by
  obtain ⟨e1, e2, e3, e4, e5⟩ := q3.appended (tmp := tmp) (by decide) q6 hw (Nat.le_add_right _ _) hown hgrow
  obtain ⟨⟨q0, q1, q2, q4, _⟩, _⟩ := h
  have k0 := (q0.alloc tmp).kept hgrow (q0.not_row (by decide) q6)
  have k1 := (q1.alloc tmp).kept hgrow (q1.not_row (by decide) q6)
  have k2 := (q2.alloc tmp).kept hgrow (q2.not_row (by decide) q6)
  have k4 := (q4.alloc tmp).kept hgrow (q4.not_row (by decide) q6)
  have k5 := (q5.alloc tmp).kept hgrow (q5.not_row (by decide) q6)
  refine ⟨⟨e1, k4⟩, fun Z hZ => ?_⟩
  subst hZ
  have j4 := boxed_other (v' := v') k4 (b' := w.heap.size + 3) (by omega)
  have j5 := boxed_other (v' := .int .i64 ((os.length : Int) + 1)) (boxed_other (v' := v') k5 (b' := w.heap.size + 3) (by omega)) (b' := w.heap.size + 4) (by omega)
  refine ⟨⟨⟨boxed_other (boxed_other k0 (by omega)) (by omega), boxed_other (boxed_other k1 (by omega)) (by omega), boxed_other (boxed_other k2 (by omega)) (by omega), ?_, u, j5⟩, v', boxed_other e2 (by omega), ?_⟩, j5, e5.setCell (p := ⟨w.heap.size + 4, 0, none⟩) (Nat.le_add_right _ _) _, e4.trans (KeepsOthers.setCell _ _ _)⟩
  · have := j4.set (.int .i64 ((os.length : Int) + 1))
    rw [List.length_append]
    exact this
  · rw [osCs_snoc, List.length_append]
    exact e3.kept (grownBy_setCell' _ (w.heap.size + 4) _) (.inr (j4.not_row (by decide) e3).symm)
theorem opCs_one (o : Opn) : ∀ u, u ∈ opCs o → u.oneCell' = true := by
  intro u hu
  unfold opCs at hu
  simp only [List.mem_cons, List.mem_nil_iff, or_false] at hu
  rcases hu with rfl | rfl | rfl | rfl | rfl | rfl | rfl <;> rfl
theorem opCs_new (W : World) (o : Opn) (t : TypeId) : ∀ (j : Nat) (u : Value), (opCs o)[j]? = some u → (W.alloc (.cells #[.int .i64 o.id, .int .i64 o.frm, .int .i64 o.dst, .int .i64 o.kind, .string o.pt.1, .string o.pt.2.1, .string o.pt.2.2] t)).cell? ((⟨W.heap.size, 0, none⟩ : Addr).add j) = some u := by
  intro j u hu
  have hr := heap_alloc_new W (.cells #[.int .i64 o.id, .int .i64 o.frm, .int .i64 o.dst, .int .i64 o.kind, .string o.pt.1, .string o.pt.2.1, .string o.pt.2.2] t)
  rw [Addr.add_mid, Nat.zero_add]
  simp only [World.cell?, hr]
  rw [← hu]
  simp [opCs]
theorem par_check (A : Option Addr) (b n c : Nat) (S : Nat → Opn) (w : World) (hA : 0 < n → A = some ⟨b, 0, none⟩) (hS : OpsAt w b 0 n S) (hE : Env w) (hs : ∀ i, i < n → ShV (S i).pt) :
    ∃ ri rc : Int, (rc = 0 ↔ n ≤ 64 ∧ ∀ i, i < n → opC S i = 0) ∧ ∀ W, Below w.heap.size w W → Calls Tryz.prog 29 #[.slice A n c] W fun e w' => e = .returned (.tuple #[.int .i64 ri, .int .i64 rc]) ∧ Below W.heap.size W w' := by
  by_cases hn : n ≤ 64
  · obtain ⟨ri, rc, h0, h1⟩ := chk_first S n
    refine ⟨ri, rc, ?_, fun W hb => op_Check A b 0 n c S ri rc W (hE.below hb) hn hA (hS.below hb) hs h0 h1⟩
    constructor
    · intro hrc
      refine ⟨hn, ?_⟩
      rcases first_bad (fun i => opC S i == 0) n with h | ⟨m, g1, g2, g3⟩
      · exact fun i hi => by simpa using h i hi
      · have hm : opC S m ≠ 0 := by simpa using g2
        exact absurd ((h1 m g1 (fun j hj => by simpa using g3 j hj) hm).2.symm.trans hrc) hm
    · exact fun h => (h0 h.2).2
  · exact ⟨-1, 8, ⟨fun h => absurd h (by decide), fun h => absurd h.1 hn⟩, fun W _ => op_Check_long A n c W (by omega)⟩
theorem lnCut_le (s : ByteArray) : (lnCut s).1.size ≤ s.size ∧ (lnCut s).2.1.size ≤ s.size := by
  rcases Lib.indexB_cases s ⟨#[10]⟩ with e | ⟨i, e, hi⟩
  · rw [lnCut_miss s e]
    exact ⟨Nat.le_refl _, Nat.zero_le _⟩
  · rw [lnCut_hit s i e]
    simp only [ByteArray.size_extract]
    omega
theorem lnRest_le (s : ByteArray) : ∀ k, (lnRest s k).size ≤ s.size
  | 0 => Nat.le_refl _
  | k + 1 => Nat.le_trans (lnCut_le (lnRest s k)).2 (lnRest_le s k)
theorem upto_get {α : Type} (f : Nat → α) (k i : Nat) (h : i < k) : (upto f k)[i]? = some (f i) := by
  unfold upto
  rw [List.getElem?_map, List.getElem?_range h]
  rfl
theorem RdsOk.get : ∀ {xs : List (ByteArray × Bool)} {os : List Opn}, RdsOk xs os → ∀ (i : Nat) (x : ByteArray × Bool), xs[i]? = some x → RdOk x (osAt os i)
  | [], [], _, i, x, hx => by simp at hx
  | y :: xs, o :: os, h, 0, x, hx => by
    simp only [List.getElem?_cons_zero, Option.some.injEq] at hx
    subst hx
    exact h.1
  | y :: xs, o :: os, h, i + 1, x, hx => by
    rw [List.getElem?_cons_succ] at hx
    exact RdsOk.get (xs := xs) (os := os) h.2 i x hx
  | [], _ :: _, h, _, _, _ => h.elim
  | _ :: _, [], h, _, _, _ => h.elim
theorem upto_len {α : Type} (f : Nat → α) (k : Nat) : (upto f k).length = k := upto_length f k
theorem par_short {s : ByteArray} {k : Nat} {os : List Opn} (h : RdsOk (upto (lnAt s) k) os) (hs : s.size ≤ 65536) : ∀ i, i < os.length → ShV (osAt os i).pt := by
  intro i hi
  rw [h.len, upto_len] at hi
  have h1 := (h.get i _ (upto_get (lnAt s) k i hi)).2.1
  have h2 : (lnAt s i).1.size ≤ s.size := Nat.le_trans (lnCut_le (lnRest s i)).1 (lnRest_le s i)
  have h3 : ∀ a, a ∈ wds (lnAt s i).1 → a.size ≤ 10000000 := fun a ha => Nat.le_trans (split_small _ _ _ a ha) (by omega)
  rw [h1] at h3
  refine ⟨h3 _ ?_, h3 _ ?_, h3 _ ?_⟩ <;> simp [wdsO]
theorem par_none {s : ByteArray} {k : Nat} {p0 : List (ByteArray × Bool)} {x : ByteArray × Bool} (hp : upto (lnAt s) k = p0 ++ [x]) (hk : ∀ j, j < k → 0 < (lnRest s j).size) (hx : ∀ o, ¬ RdOk x o) : ∀ os, ¬ RdAll s os := by
  rintro os ⟨m, _, h2, h3⟩
  have hl := congrArg List.length hp
  rw [upto_len, List.length_append, List.length_singleton] at hl
  have hm : k ≤ m := Nat.le_of_not_lt fun h => by
    have := hk m h
    omega
  have e1 : (upto (lnAt s) k)[p0.length]? = some x := by rw [hp]; simp
  rw [upto_get (lnAt s) k p0.length (by omega)] at e1
  have e2 := h3.get p0.length _ (upto_get (lnAt s) m p0.length (by omega))
  rw [Option.some.inj e1] at e2
  exact hx _ e2
theorem pa_end {w w1 Z : World} {D : Nat} {x y z a b c v : Value} {os : List Opn} (hZ : ((w1.setCell ⟨w.heap.size, 0, none⟩ x).setCell ⟨w.heap.size + 1, 0, none⟩ y).setCell ⟨w.heap.size + 2, 0, none⟩ z = Z)
    (q0 : Boxed w1 w.heap.size 62 a) (q1 : Boxed w1 (w.heap.size + 1) 3 b) (q2 : Boxed w1 (w.heap.size + 2) 37 c) (q6 : w1.ownsRow w.heap.size 26 7 v os.length (osCs os)) (hD : w.heap.size + 3 ≤ D) (hK : w1.heap[D]? = some (.deferred (some []))) (hB : Below w.heap.size w w1) :
    Z.heap[D]? = some (.deferred (some [])) ∧ ∀ Y, Y = Z.putObj D (.deferred none) → Boxed Y w.heap.size 62 x ∧ Boxed Y (w.heap.size + 1) 3 y ∧ Boxed Y (w.heap.size + 2) 37 z ∧ Y.ownsRow w.heap.size 26 7 v os.length (osCs os) ∧ Below w.heap.size w Y := by
  subst hZ
  have k0 := q0.set x
  have o0 := q6.kept (grownBy_setCell' _ w.heap.size x) (.inr (q0.not_row (by decide) q6).symm)
  have k1' := boxed_other (v' := x) q1 (b' := w.heap.size) (by omega)
  have k1 := k1'.set y
  have o1 := o0.kept (grownBy_setCell' _ (w.heap.size + 1) y) (.inr (k1'.not_row (by decide) o0).symm)
  have k2' := boxed_other (v' := y) (boxed_other (v' := x) q2 (b' := w.heap.size) (by omega)) (b' := w.heap.size + 1) (by omega)
  have k2 := k2'.set z
  have o2 := o1.kept (grownBy_setCell' _ (w.heap.size + 2) z) (.inr (k2'.not_row (by decide) o1).symm)
  have hK2 := (((KeepsOthers.setCell w1 ⟨w.heap.size, 0, none⟩ x).trans (KeepsOthers.setCell _ ⟨w.heap.size + 1, 0, none⟩ y)).trans (KeepsOthers.setCell _ ⟨w.heap.size + 2, 0, none⟩ z)).same D _ hK rfl
  have hb := ((hB.setCell (p := ⟨w.heap.size, 0, none⟩) (Nat.le_refl _) x).setCell (p := ⟨w.heap.size + 1, 0, none⟩) (Nat.le_succ _) y).setCell (p := ⟨w.heap.size + 2, 0, none⟩) (Nat.le_add_right _ _) z
  refine ⟨hK2, fun Y hY => ?_⟩
  subst hY
  refine ⟨(World.putObj_heap_other (by omega)).trans (boxed_other (boxed_other k0 (by omega)) (by omega)), (World.putObj_heap_other (by omega)).trans (boxed_other k1 (by omega)), (World.putObj_heap_other (by omega)).trans k2, ownsRow_putObj o2 _ hK2 rfl, hb.trans (belowK_b (w := w) (Nat.le_refl _) _ D _ _ (by omega) hK2 rfl rfl)⟩
theorem res_pa {fn : Func} {tmps : Array Value} {W : World} {p q r : Tmp} {a b c : Nat} {x y z : Value} (h : fn.results = #[.cell p 62, .cell q 3, .cell r 37]) (h1 : tmps.getD p undef = .pointer (some ⟨a, 0, none⟩)) (h2 : tmps.getD q undef = .pointer (some ⟨b, 0, none⟩)) (h3 : tmps.getD r undef = .pointer (some ⟨c, 0, none⟩))
    (k1 : Boxed W a 62 x) (k2 : Boxed W b 3 y) (k3 : Boxed W c 37 z) : (results fn tmps).run Tryz.prog W = .ok (.tuple #[x, y, z]) W := by
  have g1 : tmps[p]?.getD undef = .pointer (some ⟨a, 0, none⟩) := by simpa using h1
  have g2 : tmps[q]?.getD undef = .pointer (some ⟨b, 0, none⟩) := by simpa using h2
  have g3 : tmps[r]?.getD undef = .pointer (some ⟨c, 0, none⟩) := by simpa using h3
  have c1 := k1.cell
  have c2 := k2.cell
  have c3 := k3.cell
  simp [results, h, g1, g2, g3, asAddr, go_sem, c1, c2, c3]
/-- What Parse answers. -/
def ParP (s : ByteArray) (w : World) (e : Ending) (w' : World) : Prop :=
  (∃ k : Nat, e = .returned (.tuple #[.slice none 0 0, .int .i64 (k : Int), .int .i64 3]) ∧ (∀ os, ¬ RdAll s os) ∧ Below w.heap.size w w') ∨
  (∃ (os : List Opn) (A : Option Addr) (b c : Nat), RdAll s os ∧ (0 < os.length → A = some ⟨b, 0, none⟩) ∧ OpsAt w' b 0 os.length (osAt os) ∧ Below w.heap.size w w' ∧
    (((os.length ≤ 64 ∧ ∀ i, i < os.length → opC (osAt os) i = 0) ∧ e = .returned (.tuple #[.slice A os.length c, .int .i64 (-1), .int .i64 0])) ∨
      (¬ (os.length ≤ 64 ∧ ∀ i, i < os.length → opC (osAt os) i = 0) ∧ e = .returned (.tuple #[.slice none 0 0, .int .i64 (-1), .int .i64 1]))))
noncomputable def opnI : TypeInfo := (Tryz.prog.info? 26).get (by kernel_rfl)
def opnZ : Value := .agg #[.int .i64 0, .int .i64 0, .int .i64 0, .int .i64 0, .string ⟨#[]⟩, .string ⟨#[]⟩, .string ⟨#[]⟩]
theorem keeps_below {W W' : World} (h : Below W.heap.size W W') : KeepsOthers W W' := ⟨h.size, fun _ _ hk _ => keep h hk⟩
theorem below_grown {w W W' : World} {B : Nat} {row : Option Nat} (hB : w.heap.size ≤ B) (h : Below w.heap.size w W) (hg : W.grownBy W' row) (hr : ∀ r, row = some r → B ≤ r) : Below w.heap.size w W' :=
  h.grown hg h.size (fun k e => Nat.le_trans hB (hr k e))
theorem PaI.own (w : World) (B : Nat) (hB : w.heap.size ≤ B) : OwnFrom B (PaI w) := fun _ _ _ _ ⟨os, h1, h2, h3⟩ hg hr => ⟨os, h1, h2.own hg (fun r e => (hr r e).2), below_grown hB h3 hg (fun r e => (hr r e).1)⟩
theorem PaX.own (w : World) (B : Nat) (hB : w.heap.size ≤ B) : OwnFrom B (PaX w) := fun _ _ _ _ ⟨p0, x, h1, h2, h3, h4, h5, h6⟩ hg hr =>
  ⟨p0, x, h1, h2, boxed_own h3 hg (fun r e => (hr r e).2), boxed_own h4 hg (fun r e => (hr r e).2), boxed_own h5 hg (fun r e => (hr r e).2), below_grown hB h6 hg (fun r e => (hr r e).1)⟩

set_option maxRecDepth 100000 in
set_option maxHeartbeats 8000000 in
theorem op_Parse (s : ByteArray) (w : World) (hE : EnvB w) (hs : s.size ≤ 65536) :
    Calls Tryz.prog 46 #[.string s] w (ParP s w) := by
  have hs1 : ¬ (65536 : Int) < (s.size : Int) := by omega
  have hfo : Tryz.prog.follows .mixedOrders = true := by kernel_rfl
  have HE := Lib.hid hE
  clear hE
  refine (callsIn_wide (n := 5)).1 ?_
  refine callsIn_of_wp_marks Tryz.func46 rfl trivial ?_ rfl
  simp only [Tryz.ntmps46, List.size_toArray, List.length_cons, List.length_nil, Nat.reduceAdd, Nat.reduceSub, Array.replicate_succ, Array.replicate_zero, List.push_toArray, List.append_toArray, List.nil_append, List.cons_append]
  gi_wp2_with fail
  refine ⟨trivial, ?_⟩
  refine (callsIn_wide.2 (op_lines s _)).mono ?_
  rintro e w' ⟨rfl, rfl⟩
  gi_wp2_with fail
  simp only [Nat.add_assoc, Nat.reduceAdd]
  generalize hW : World.alloc (World.alloc _ _) _ = W0
  obtain ⟨hB0, hsz, r0, r1, r2, r3, r4, r5⟩ := A6 hW
  clear hW
  refine wpIn_lines (s := s) (Bs := w.heap.size + 5) (V := w) (by omega) HE.out (by omega) hB0 r5 rfl rfl (PaI w) (PaX w) (PaI.own w _ (by omega)) (PaX.own w _ (by omega))
    (fun pre W n h => ?_) (fun pre W v h => ?_) ⟨[], trivial, ⟨⟨r0, r1, r2, r4, _, r5⟩, _, r3, ?_⟩, hB0⟩
    (fun x => { tmps := #[.string s, undef, .pointer (some ⟨w.heap.size, 0, none⟩), .pointer (some ⟨w.heap.size + 1, 0, none⟩), .pointer (some ⟨w.heap.size + 2, 0, none⟩), .pointer (some ⟨w.heap.size + 3, 0, none⟩), .pointer (some ⟨w.heap.size + 4, 0, none⟩), .string x.1, .bool x.2, undef, undef, undef, undef, .string s, .int .i64 s.size, .bool false, .string s, .func (.func 134) #[] #[.pointer (some ⟨w.heap.size + 5, 0, none⟩)], .string x.1, .bool x.2, undef, undef, undef, undef, undef, undef, undef, undef, undef, undef, undef, undef, undef, undef, undef, undef, undef, undef, undef, undef, undef, undef, undef, undef, undef, undef], defers := [] })
    ?assign ?body ?done ?stop
  · obtain ⟨os, h1, h2, h3⟩ := h
    exact ⟨os, h1, h2.drewN n, h3.trans ⟨rfl, rfl, rfl, Nat.le_refl _, fun _ _ => rfl⟩⟩
  · obtain ⟨os, h1, h2, h3⟩ := h
    exact ⟨os, h1, h2.box v, h3.setCell (p := ⟨w.heap.size + 5, 0, none⟩) (by show w.heap.size ≤ w.heap.size + 5; omega) v⟩
  · exact ⟨rfl, .inl ⟨rfl, rfl⟩⟩
  case assign =>
    intro l x W K hK
    gi_wp2
    exact hK
  case body =>
    rintro l pre x W ⟨os, hr, hP, hB⟩ hlen hx
    have hRd := op_read x.1 W (HE.out.below hB) (by omega)
    unfold RdP at hRd
    have HR := Lib.hid hRd
    have HRS := Lib.hid hr
    have HP := Lib.hid hP
    have HX := Lib.hid hx
    have HL := Lib.hid hlen
    have HSZ := Lib.hid hsz
    have HSS := Lib.hid hs
    clear hRd hr hP hx hlen hsz r0 r1 r2 r3 r4 r5 hs hB0
    obtain ⟨x1, x2⟩ := x
    cases x2
    · gi_wp2_with fail
      refine ⟨trivial, ?_⟩
      refine (CallsIn.inRound l (callsIn_wide.2 HR.out)).mono ?_
      rintro e w1 ⟨o, b, he, hb1, hb0, hB1⟩
      rw [show opV o = .agg #[.int .i64 o.id, .int .i64 o.frm, .int .i64 o.dst, .int .i64 o.kind, .string o.pt.1, .string o.pt.2.1, .string o.pt.2.2] from rfl] at he
      subst he
      have HP1 := Lib.hid (HP.out.below hB hB1)
      have HB1 := Lib.hid hb1
      have HB0 := Lib.hid hb0
      have hBw1 := hB.trans (hB1.mono hB.size)
      clear hb1 hb0
      cases b
      · gi_wp2_with fail
        generalize hA : World.alloc w1 _ = w2
        have hbA := (A1 hA).1
        have RO := (A1 hA).2.2
        have HP2 := Lib.hid (HP1.out.below hBw1 hbA)
        have hBw2 := hBw1.trans (hbA.mono hBw1.size)
        have HKO := Lib.hid ((keeps_below hB1).trans (keeps_below hbA))
        clear hA HP1 HP
        obtain ⟨⟨q0, q1, q2, q4, _, _⟩, _⟩ := HP2.out
        obtain ⟨c0, f0⟩ := row1 q0
        obtain ⟨c1, f1⟩ := row1 q1
        obtain ⟨c2, f2⟩ := row1 q2
        obtain ⟨c4, f4⟩ := row1 q4
        have Q0 := Lib.hid q0
        have Q1 := Lib.hid q1
        have Q2 := Lib.hid q2
        clear q0 q1 q2 q4
        gi_region_with_o (fail)
        all_goals
          gi_wp2_with fail
          generalize hZ : World.drew _ = Z
          obtain ⟨z0, z1, z2, zb, zk⟩ := pa_bad hZ Q0.out Q1.out Q2.out hBw2
          exact ⟨(HKO.out.trans zk).from _, rfl, pre, _, rfl, fun o h => Bool.false_ne_true h.1, z0, by rw [← HRS.out.len]; exact z1, z2, zb⟩
      · gi_wp2_with fail
        generalize hA : World.alloc w1 _ = w2
        have hbA := (A1 hA).1
        have RO := (A1 hA).2.2
        have HP2 := Lib.hid (HP1.out.below hBw1 hbA)
        have hBw2 := hBw1.trans (hbA.mono hBw1.size)
        have HKO := Lib.hid ((keeps_below hB1).trans (keeps_below hbA))
        clear hA HP1 HP
        obtain ⟨⟨q0, q1, q2, q4, _, _⟩, _⟩ := HP2.out
        obtain ⟨c0, f0⟩ := row1 q0
        obtain ⟨c1, f1⟩ := row1 q1
        obtain ⟨c2, f2⟩ := row1 q2
        obtain ⟨c4, f4⟩ := row1 q4
        have Q0 := Lib.hid q0
        have Q1 := Lib.hid q1
        have Q2 := Lib.hid q2
        clear q0 q1 q2 q4
        gi_region_with_o (fail)
        all_goals
          gi_wp2_with fail
          generalize hZ : World.drew _ = Z
          obtain ⟨z0, z1, z2, zb, zk⟩ := pa_bad hZ Q0.out Q1.out Q2.out hBw2
          exact ⟨(HKO.out.trans zk).from _, rfl, pre, _, rfl, fun o h => Bool.false_ne_true h.1, z0, by rw [← HRS.out.len]; exact z1, z2, zb⟩
    · gi_wp2_with fail
      refine ⟨trivial, ?_⟩
      refine (CallsIn.inRound l (callsIn_wide.2 HR.out)).mono ?_
      rintro e w1 ⟨o, b, he, hb1, hb0, hB1⟩
      rw [show opV o = .agg #[.int .i64 o.id, .int .i64 o.frm, .int .i64 o.dst, .int .i64 o.kind, .string o.pt.1, .string o.pt.2.1, .string o.pt.2.2] from rfl] at he
      subst he
      have HP1 := Lib.hid (HP.out.below hB hB1)
      have HB1 := Lib.hid hb1
      have HB0 := Lib.hid hb0
      have hBw1 := hB.trans (hB1.mono hB.size)
      clear hb1 hb0
      cases b
      · have HN := Lib.hid (HB0.out rfl)
        clear HB0 HB1
        gi_wp2_with fail
        generalize hA : World.alloc w1 _ = w2
        have hbA := (A1 hA).1
        have RO := (A1 hA).2.2
        have HP2 := Lib.hid (HP1.out.below hBw1 hbA)
        have hBw2 := hBw1.trans (hbA.mono hBw1.size)
        have HKO := Lib.hid ((keeps_below hB1).trans (keeps_below hbA))
        clear hA HP1 HP
        obtain ⟨⟨q0, q1, q2, q4, _, _⟩, _⟩ := HP2.out
        obtain ⟨c0, f0⟩ := row1 q0
        obtain ⟨c1, f1⟩ := row1 q1
        obtain ⟨c2, f2⟩ := row1 q2
        obtain ⟨c4, f4⟩ := row1 q4
        have Q0 := Lib.hid q0
        have Q1 := Lib.hid q1
        have Q2 := Lib.hid q2
        clear q0 q1 q2 q4
        gi_region_with_o (fail)
        all_goals
          gi_wp2_with fail
          generalize hZ : World.drew _ = Z
          obtain ⟨z0, z1, z2, zb, zk⟩ := pa_bad hZ Q0.out Q1.out Q2.out hBw2
          exact ⟨(HKO.out.trans zk).from _, rfl, pre, _, rfl, fun o h => HN.out o h.2, z0, by rw [← HRS.out.len]; exact z1, z2, zb⟩
      · have HG := Lib.hid (HB1.out rfl)
        clear HB0 HB1
        gi_upto_region 11 with fail
        obtain ⟨uW, hu⟩ := HP.out.1.2.2.2.2
        have HU := Lib.hid hu
        have HU1 := Lib.hid (keep hB1 hu)
        clear hu
        generalize hA : World.alloc w1 _ = w2
        have hbA := (A1 hA).1
        have RO := (A1 hA).2.2
        have HP2 := Lib.hid (HP1.out.below hBw1 hbA)
        have hBw2 := hBw1.trans (hbA.mono hBw1.size)
        have HKO := Lib.hid ((keeps_below hB1).trans (keeps_below hbA))
        clear hA HP1 HP
        have HU2 := Lib.hid (keep hbA HU1.out)
        clear HU1
        obtain ⟨_, v, q3, q6⟩ := HP2.out
        obtain ⟨c3, f3⟩ := row1 q3
        obtain ⟨v0, v1, v2, v3, v4, v5, v6, _⟩ := row7 RO
        have HQ6 := Lib.hid q6
        have HQ3 := Lib.hid q3
        have HLN := Lib.hid (show os.length < 65536 by have := HRS.out.len; have := HL.out; have := HSS.out; omega)
        clear q3 q6
        gi_wp2_with (gi_at_builtin; refine wpListIn_append_own _ rfl _ _ 62 rfl w.heap.size 26 opnI opnZ 7 80 Tryz.underlying62 (by kernel_rfl) (by kernel_rfl) (by kernel_rfl) (by kernel_rfl) rfl (by decide) _ _ _ rfl (HQ6.out.alloc _) ⟨w2.heap.size, 0, none⟩ 1 1 (opCs o) rfl ?qc1 ?qc2 ?qc3 ?qc4 ?qc5 ?qc6 ?_)
        case qc1 => rfl
        case qc2 => exact opCs_new _ _ _
        case qc3 => exact opCs_one o
        case qc4 => have := HLN.out; have : maxLen = 9223372036854775807 := rfl; omega
        case qc5 => have := HLN.out; omega
        case qc6 => exact Nat.le_trans hBw2.size (by simp)
        intro v' w3 hown' hgrow _
        obtain ⟨g', cap', rfl⟩ := ownsRow_succ hown'
        obtain ⟨⟨e1, e2⟩, e3⟩ := pa_good HP2.out HQ3.out HQ6.out HU2.out hBw2.size hown' hgrow
        have E3 := Lib.hid e3
        have hlnn : (os.length : Int) < 65536 := by have := HLN.out; omega
        obtain ⟨d3, g3⟩ := row1 e1
        obtain ⟨d4, g4⟩ := row1 e2
        clear e1 e2 e3 hown' hgrow c3 f3 v0 v1 v2 v3 v4 v5 v6
        gi_wp2_with fail
        generalize hZ : World.setCell (World.setCell w3 _ _) _ _ = Z
        obtain ⟨z1, z2, z3, z4⟩ := E3.out Z hZ.symm
        exact ⟨(HKO.out.trans z4).from _, ⟨(show Z.heap[w.heap.size + 5]? = _ from z2).trans HU.out.symm, ((hB1.mono hB.size).trans (hbA.mono hBw1.size)).trans z3⟩, os ++ [o], HRS.out.snoc ⟨rfl, HG.out⟩, z1, hBw2.trans z3⟩
  case done =>
    rintro D k W hD hk1 hk2 ⟨os, hr, hP, hB⟩ hK
    obtain ⟨⟨q0, q1, q2, q4, u, q5⟩, v, q3, q6⟩ := hP
    obtain ⟨A, b, c, rfl, hA, hO⟩ := owns_opsAt q6
    obtain ⟨ri, rc, hrc, hchk⟩ := par_check A b os.length c (osAt os) W hA hO (HE.out.below hB).env (par_short hr hs)
    have HC := Lib.hid (hchk W (Below.refl _ _))
    have HRC := Lib.hid hrc
    have HR := Lib.hid (show RdAll s os from ⟨k, hk1, hk2, hr⟩)
    have HA := Lib.hid hA
    have HO := Lib.hid hO
    have HQ0 := Lib.hid q0
    have HQ1 := Lib.hid q1
    have HQ2 := Lib.hid q2
    have HK := Lib.hid hK
    have HQ3 := Lib.hid q3
    obtain ⟨c3, f3⟩ := row1 q3
    have q6x := q6
    clear hchk hrc hk1 hk2 hr hA hO q0 q1 q2 q4 q5 q6 q3 hK r0 r1 r2 r3 r4 r5 hs1
    have HQ6 := Lib.hid q6x
    clear q6x
    gi_wp2_with fail
    refine ⟨trivial, ?_⟩
    refine (callsIn_wide.2 HC.out).mono ?_
    rintro e w1 ⟨rfl, hB1⟩
    have K0 := Lib.hid (keep hB1 HQ0.out)
    have K1 := Lib.hid (keep hB1 HQ1.out)
    have K2 := Lib.hid (keep hB1 HQ2.out)
    have K3 := Lib.hid (keep hB1 HQ3.out)
    have KD := Lib.hid (keep hB1 HK.out)
    have K6 := Lib.hid (owns_below HQ6.out hB1)
    have hBw := hB.trans (hB1.mono hB.size)
    have HD := Lib.hid (show w.heap.size + 3 ≤ D by omega)
    clear HQ0 HQ1 HQ2 HQ3 HQ6 HK HC c3 f3 hB1
    obtain ⟨c0, f0⟩ := row1 K0.out
    obtain ⟨c1, f1⟩ := row1 K1.out
    obtain ⟨c2, f2⟩ := row1 K2.out
    obtain ⟨c3, f3⟩ := row1 K3.out
    by_cases hrc : rc = 0
    · have HGO := Lib.hid (HRC.out.1 hrc)
      subst hrc
      clear HRC
      gi_wp2_with fail
      generalize hZ : World.setCell (World.setCell (World.setCell w1 _ _) _ _) _ _ = Z
      obtain ⟨hKZ, hY⟩ := pa_end hZ K0.out K1.out K2.out K6.out HD.out KD.out hBw
      refine ⟨by simp, .inl ⟨_, _, rfl, run_takeDeferred hKZ, ?_⟩⟩
      obtain ⟨y0, y1, y2, y6, yb⟩ := hY _ rfl
      obtain ⟨A', b', c', e, hA', hO'⟩ := owns_opsAt y6
      simp only [Value.slice.injEq, true_and] at e
      obtain ⟨rfl, rfl⟩ := e
      exact ⟨_, res_pa rfl rfl rfl rfl y0 y1 y2, .inr ⟨os, A, b', c, HR.out, hA', hO', yb, .inl ⟨HGO.out, rfl⟩⟩⟩
    · have HNO := Lib.hid (fun h => hrc (HRC.out.2 h))
      have hrb : (rc != 0) = true := by rw [bne_iff_ne]; exact hrc
      clear HRC
      gi_wp2_with fail
      generalize hZ : World.setCell (World.setCell (World.setCell w1 _ _) _ _) _ _ = Z
      obtain ⟨hKZ, hY⟩ := pa_end hZ K0.out K1.out K2.out K6.out HD.out KD.out hBw
      refine ⟨by simp, .inl ⟨_, _, rfl, run_takeDeferred hKZ, ?_⟩⟩
      obtain ⟨y0, y1, y2, y6, yb⟩ := hY _ rfl
      obtain ⟨A', b', c', e, hA', hO'⟩ := owns_opsAt y6
      simp only [Value.slice.injEq, true_and] at e
      obtain ⟨rfl, rfl⟩ := e
      exact ⟨_, res_pa rfl rfl rfl rfl y0 y1 y2, .inr ⟨os, A, b', c, HR.out, hA', hO', yb, .inr ⟨HNO.out, rfl⟩⟩⟩
  case stop =>
    rintro D k W hD hk1 ⟨p0, x, hp, hx, q0, q1, q2, hB⟩ hK
    have HN := Lib.hid (par_none hp hk1 hx)
    have HQ0 := Lib.hid q0
    have HQ1 := Lib.hid q1
    have HQ2 := Lib.hid q2
    have HK := Lib.hid hK
    have hD2 : w.heap.size + 3 ≤ D := by omega
    clear hp hk1 hx q0 q1 q2 hK r0 r1 r2 r3 r4 r5 hs1 hsz hD
    gi_wp2
    refine ⟨by simp, .inl ⟨_, _, rfl, run_takeDeferred HK.out, ?_⟩⟩
    exact ⟨_, res_pa rfl rfl rfl rfl ((World.putObj_heap_other (by omega)).trans HQ0.out) ((World.putObj_heap_other (by omega)).trans HQ1.out) ((World.putObj_heap_other (by omega)).trans HQ2.out), .inl ⟨_, rfl, HN.out, hB.trans (belowK_b (w := w) (Nat.le_refl _) W D _ _ (by omega) HK.out rfl rfl)⟩⟩
end Go.Proofs.YthkkdepppjiaeaaGreatDoor
