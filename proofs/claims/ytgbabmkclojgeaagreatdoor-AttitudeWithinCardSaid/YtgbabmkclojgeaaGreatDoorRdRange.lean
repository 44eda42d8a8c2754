/- A PART OF THE PROOF, JOINED OUT OF 3 TEXTS. -/
import Derived.Test.YtgbabmkclojgeaaGreatDoorPhInteger
import Derived.OrdersHeld
import Derived.Test.YtgbabmkclojgeaaGreatDoorPmVector
import Derived.Lib.SliceRun
import Derived.Test.YtgbabmkclojgeaaGreatDoorQmRef
import Derived.Test.YtgbabmkclojgeaaGreatDoorQoApart
import Derived.BigRegion
/- A region that draws its order, whose last operations write what its first ones load: each such load may be taken first, if whatever writes waits for an operation that waits for the load. -/
namespace Go.Proofs.YtgbabmkclojgeaaGreatDoor
open Go.RowKit Go.Shelf Go.Sort

/-- Whatever order is picked from here on; S holds behind every operation that is not late. -/
def wpLate (P : Program) (md : Region.Mode) (ops : Array Oper) (Q : Exit → Act → World → Prop) (S : World → Prop) (late : Nat → Bool) : Nat → Array Bool → Act → World → Prop
  | 0, listed, a, w => Region.ready md ops listed = [] ∧ Q .normal a w
  | fuel + 1, listed, a, w => (Region.ready md ops listed = [] → Q .normal a w) ∧
    ∀ i ∈ Region.ready md ops listed, wpOp P ops Q i (fun a' w' => (late i = false → S w') ∧ wpLate P md ops Q S late fuel (listed.setIfInBounds i true) a' w') a w
/-- Operation j waits for operation k. -/
def waits (md : Region.Mode) (ops : Array Oper) (j k : Nat) : Bool := ((ops[j]?).map (·.after.toList.any fun e => Region.binds md e && e.on == k)).getD false

section
variable {P : Program} {ops : Array Oper} {Q : Exit → Act → World → Prop} {md : Region.Mode} {S : World → Prop} {late : Nat → Bool}

theorem wpAny_of_late : ∀ (fuel : Nat) (listed : Array Bool) (a : Act) (w : World), wpLate P md ops Q S late fuel listed a w → wpAny P md ops Q fuel listed a w
  | 0, _, _, _, h => h
  | fuel + 1, _, _, _, h => ⟨h.1, fun i hi => wpOp_mono (fun a' w' h' => wpAny_of_late fuel _ a' w' h'.2) (h.2 i hi)⟩
theorem not_ready {j k : Nat} {listed : Array Bool} (h : waits md ops j k = true) (hk : listed.getD k true = false) : j ∉ Region.ready md ops listed := by
  intro hj
  obtain ⟨_, o, ho, hall⟩ := mem_ready.1 hj
  unfold waits at h
  rw [ho, Option.map_some, Option.getD_some, List.any_eq_true] at h
  obtain ⟨e, he, hb⟩ := h
  rw [Bool.and_eq_true, beq_iff_eq] at hb
  have h1 := hall e (by simpa using he) hb.1
  rw [hb.2] at h1
  rcases Nat.lt_or_ge k listed.size with h' | h'
  · simp [h'] at h1 hk
    rw [h1] at hk
    cases hk
  · simp [Array.getElem?_eq_none h'] at h1
theorem wpLate_first {i k : Nat} {oi : Oper} {v : Value} (hi : ops[i]? = some oi) (hsel : ∀ (j : Nat) (o : Oper) cs b, ops[j]? = some o → o.op ≠ .select cs b)
    (hQ : ∀ c a w, Q (.panic c) (a.put oi.dst v) w → Q (.panic c) a w) (hk : waits md ops k i = true) (hl : ∀ j, j < ops.size → late j = true → waits md ops j k = true) :
    ∀ (fuel : Nat) (listed : Array Bool) (a : Act) (w : World),
      (∀ j oj, ops[j]? = some oj → j ≠ i → listed.getD j true = false → (∀ e ∈ oj.after, Region.binds md e = true → e.on ≠ i) → oi.apart ops oj = true) →
      listed.getD k true = false → i ∈ Region.ready md ops listed → YieldsIf P ops S oi v a → S w →
      wpLate P md ops Q S late fuel (listed.setIfInBounds i true) (a.put oi.dst v) w → wpLate P md ops Q S late (fuel + 1) listed a w := by
  intro fuel
  induction fuel with
  | zero =>
    intro listed a w _ _ hr hy hS H
    refine ⟨fun h => (by rw [h] at hr; cases hr), fun j hj => ?_⟩
    by_cases hji : j = i
    · subst hji
      exact hy.wpOp hi hS ⟨fun _ => hS, H⟩
    · have := ready_mono hj hji
      rw [H.1] at this
      cases this
  | succ fuel ih =>
    intro listed a w hfree hkl hr hy hS H
    refine ⟨fun h => (by rw [h] at hr; cases hr), fun j hj => ?_⟩
    by_cases hji : j = i
    · subst hji
      exact hy.wpOp hi hS ⟨fun _ => hS, H⟩
    · obtain ⟨hjun, oj, hoj, hall⟩ := mem_ready.1 hj
      have hlj : late j = false := by
        cases e : late j with
        | false => rfl
        | true => exact absurd hj (not_ready (hl j (Array.getElem?_eq_some_iff.1 hoj).1 e) hkl)
      have hjk : j ≠ k := by
        rintro rfl
        exact not_ready hk (mem_ready.1 hr).1 hj
      have hnot : ∀ e ∈ oj.after, Region.binds md e = true → e.on ≠ i := by
        intro e he hb heq
        have h1 := hall e he hb
        have h0 := (mem_ready.1 hr).1
        rw [heq] at h1
        rcases Nat.lt_or_ge i listed.size with h' | h'
        · simp [h'] at h0 h1
          rw [h0] at h1
          cases h1
        · simp [Array.getElem?_eq_none h'] at h1
      have h2 := wpOp_putIf hoj (hfree j oj hoj hji hjun hnot) (fun cs b => hsel i oi cs b hi) (fun cs b => hsel j oj cs b hoj) hQ hy (H.2 j (ready_mono hj hji))
      have hfree' : ∀ m om, ops[m]? = some om → m ≠ i → (listed.setIfInBounds j true).getD m true = false → (∀ e ∈ om.after, Region.binds md e = true → e.on ≠ i) → oi.apart ops om = true := by
        intro m om hm hmi hun hno
        refine hfree m om hm hmi ?_ hno
        by_cases hjm : j = m
        · subst hjm
          exact hjun
        · rw [getD_set_ne true hjm] at hun
          exact hun
      refine wpOp_mono (fun a' w' h3 => ⟨h3.2.1, ih (listed.setIfInBounds j true) a' w' hfree' (by rw [getD_set_ne true hjk]; exact hkl) (ready_mono hr (Ne.symm hji)) h3.1 (h3.2.1 hlj) ?_⟩) h2
      rw [Array.setIfInBounds_comm _ _ hji]
      exact h3.2.2
/-- Operation i, which yields v in every world that meets S, comes up first: all that is late waits for k, which waits for i. -/
theorem wpLate_take (i k : Nat) {oi : Oper} {v : Value} {fuel : Nat} {listed : Array Bool} {a : Act} {w : World} (hi : ops[i]? = some oi)
    (hs : Region.noSelect ops = true) (hf : Region.free md ops listed i = true) (hr : (Region.ready md ops listed).contains i = true)
    (hk : waits md ops k i = true) (hl : ((List.range ops.size).all fun j => !late j || waits md ops j k) = true) (hkl : listed.getD k true = false)
    (hQ : ∀ c a w, Q (.panic c) (a.put oi.dst v) w → Q (.panic c) a w) (hy : YieldsIf P ops S oi v a) (hS : S w)
    (h : wpLate P md ops Q S late fuel (listed.setIfInBounds i true) (a.put oi.dst v) w) : wpLate P md ops Q S late (fuel + 1) listed a w := by
  refine wpLate_first hi (Region.noSelect_spec hs) hQ hk (fun j hj hlj => ?_) fuel listed a w (Region.free_spec hi hf) hkl (by simpa using hr) hy hS h
  have := (List.all_eq_true.1 hl) j (List.mem_range.2 hj)
  rw [hlj] at this
  simpa using this
/-- One operation alone may come up. -/
theorem wpLate_one (i : Nat) {o : Oper} {fuel : Nat} {listed : Array Bool} {a : Act} {w : World} (hr : Region.ready md ops listed = [i]) (ho : ops[i]? = some o)
    (hw : Region.wanted o (yielded ops a.tmps) = true)
    (h : ∀ K : Act → World → Prop, Hid (∀ a' w', (late i = false → S w') → wpLate P md ops Q S late fuel (listed.setIfInBounds i true) a' w' → K a' w') → Oper.wp P o a w K Q) :
    wpLate P md ops Q S late (fuel + 1) listed a w := by
  refine ⟨fun h0 => (by rw [hr] at h0; cases h0), fun j hj => ?_⟩
  rw [hr, List.mem_singleton] at hj
  subst hj
  unfold wpOp
  simp only [ho, hw, if_true]
  exact .inl (h _ (Lib.hid fun a' w' h1 h2 => ⟨h1, h2⟩))
theorem wpLate_done {listed : Array Bool} {a : Act} {w : World} (hr : Region.ready md ops listed = []) (h : Q .normal a w) : ∀ fuel, wpLate P md ops Q S late fuel listed a w
  | 0 => ⟨hr, h⟩
  | _ + 1 => ⟨fun _ => h, by rw [hr]; simp⟩
theorem wp_region_late {id : Nat} {a : Act} {w : World} (S : World → Prop) (late : Nat → Bool) (hm : P.follows .mixedOrders = true)
    (h : wpLate P .any ops Q S late ops.size (Array.replicate ops.size false) a w.drew) : (Code.region id ops true).wp P Q a w :=
  wp_region_any hm (wpAny_of_late _ _ _ _ h)
end
end Go.Proofs.YtgbabmkclojgeaaGreatDoor

/- slices.Clone at slices of vectors (walked out of its own body, as the kit's contract for any type). -/
namespace Go.Proofs.YtgbabmkclojgeaaGreatDoor
open Go.RowKit Go.Shelf Go.Sort

noncomputable def vecI : TypeInfo := (Tryz.prog.info? 28).get (by kernel_rfl)
def vecZ : Value := .agg #[.string ⟨#[]⟩, .string ⟨#[]⟩, .string ⟨#[]⟩]

set_option maxHeartbeats 2000000 in
set_option maxRecDepth 100000 in
theorem sl_Clone (a : Addr) (n c : Nat) (news : List Value) (w : World) (hl : news.length = n * 3) (hn : n ≤ 100000)
    (hc : ∀ j u, news[j]? = some u → w.cell? (a.add j) = some u) (h1 : ∀ u ∈ news, u.oneCell' = true) :
    Calls Tryz.prog 48 #[.slice (some a) n c] w fun e w' => ∃ v', e = .returned v' ∧ w'.ownsRow w.heap.size 28 3 v' n news ∧ v' ≠ .slice none 0 0 ∧ Below w.heap.size w w' := by
  have A := Lib.hid hc
  clear hc
  have q22 : ∀ (w : World) (a : Option Addr) (n c n' c' : Nat), (binOp .eql 34 (.slice a n c) (.slice none n' c')).run Tryz.prog w = .ok (.bool a.isNone) w := fun w a n c n' c' => Lib.run_eql_slice_nil w _ _ a n c n' c' Tryz.underlying34
  have u22 : ∀ w, Sem.run Tryz.prog (underlying 34) w = .ok (TypeDesc.slice 28) w := run_underlying Tryz.underlying34
  go_enter Tryz.func48, Tryz.ntmps48
  go_wp2_with (at_builtin; refine wpList_append_own _ rfl _ _ 34 rfl w.heap.size 28 vecI vecZ 3 48 Tryz.underlying34 (by kernel_rfl) (by kernel_rfl) (by kernel_rfl) (by kernel_rfl) rfl (by decide) _ _ _ rfl (World.ownsRow_made w #[] 0 (Nat.le_refl _) (Nat.zero_le _) (by simp)) a n c news rfl ?qc1 ?qc2 ?qc3 ?qc4 ?qc5 ?qc6 ?_)
  case qc1 => exact hl
  case qc2 =>
    intro j u hj
    exact Lib.cell?_alloc_some _ (A.out j u hj)
  case qc3 => exact h1
  case qc4 => rw [Nat.zero_add]; exact Nat.le_trans hn (by decide)
  case qc5 => rw [Nat.zero_add]; omega
  case qc6 => simp
  intro v' w1 hown hgrow hnil
  go_wp2
  go_ret
  refine ⟨v', rfl, by simpa using hown, ?_, ?_⟩
  · exact hnil
  · exact ((Below.refl _ w).alloc (Nat.le_refl _) _).grown hgrow (by simp) (by intro k hk; simp [Value.ownBlock] at hk; omega)
set_option maxRecDepth 100000 in
set_option maxHeartbeats 1000000 in
theorem sl_Clone_nil (n c : Nat) (w : World) :
    Calls Tryz.prog 48 #[.slice none n c] w fun e w' => e = .returned (.slice none 0 0) ∧ Below w.heap.size w w' := by
  have q22 : ∀ (w : World) (a : Option Addr) (n c n' c' : Nat), (binOp .eql 34 (.slice a n c) (.slice none n' c')).run Tryz.prog w = .ok (.bool a.isNone) w := fun w a n c n' c' => Lib.run_eql_slice_nil w _ _ a n c n' c' Tryz.underlying34
  have u22 : ∀ w, Sem.run Tryz.prog (underlying 34) w = .ok (TypeDesc.slice 28) w := run_underlying Tryz.underlying34
  go_enter Tryz.func48, Tryz.ntmps48
  go_wp2
  go_ret
  exact ⟨rfl, Below.refl _ _⟩
end Go.Proofs.YtgbabmkclojgeaaGreatDoor

/- The reference of layer 11: Range. -/
namespace Go.Proofs.YtgbabmkclojgeaaGreatDoor
open Go.RowKit Go.Shelf Go.Sort

attribute [local go_sem] Oper.semAt_some

/-- The least and the greatest product so far. -/
def rngR (a : V3) (S : Nat → V3) : Nat → Rat × Rat
  | 0 => (0, 0)
  | k + 1 => (lstQ (if k = 0 then dotI a (S k) else (rngR a S k).1) (dotI a (S k)), mstQ (if k = 0 then dotI a (S k) else (rngR a S k).2) (dotI a (S k)))
theorem sz_lst {k : Nat} {x y : Rat} (hx : Sz k x) (hy : Sz k y) : Sz k (lstQ x y) := by unfold lstQ; split <;> assumption
theorem sz_mst {k : Nat} {x y : Rat} (hx : Sz k x) (hy : Sz k y) : Sz k (mstQ x y) := by unfold mstQ; split <;> assumption
theorem sz_rngR {K n : Nat} {a : V3} {S : Nat → V3} (hK : 1 ≤ K) (ha : SzV K a) (hS : ∀ i, i < n → SzV K (S i)) : ∀ k, k ≤ n → Sz (40 * K) (rngR a S k).1 ∧ Sz (40 * K) (rngR a S k).2
  | 0, _ => ⟨sz_0 _ (by omega), sz_0 _ (by omega)⟩
  | k + 1, h => by
    obtain ⟨h1, h2⟩ := sz_rngR hK ha hS k (by omega)
    have hd := sz_dotI ha (hS k (by omega))
    refine ⟨sz_lst ?_ hd, sz_mst ?_ hd⟩ <;> split <;> assumption
theorem RQ.st3 {w : World} {p d : Sl} {x : Rat} {g : Nat} {b1 b0 : Bool} {v1 v2 u1 u2 : Value} {t : TypeId} (h : RQ w p d x) (hr : w.heap[g]? = some (.cells #[.bool b1, v1, v2] t (0, 0))) : RQ (((w.setCell ⟨g, 0, none⟩ (.bool b0)).setCell ⟨g, 1, none⟩ u1).setCell ⟨g, 2, none⟩ u2) p d x := by
  have hb : RB w g := ⟨b1, cell_of_row w _ 0 _ _ _ hr⟩
  exact RQ.set (RQ.set (RQ.set h hb 0 (.bool b0)) (hb.set0 b0) 1 u1) (RB.setI (hb.set0 b0) 1 u1 (by decide)) 2 u2
theorem RV.st3 {w : World} {s : VS} {a : V3} {g : Nat} {b1 b0 : Bool} {v1 v2 u1 u2 : Value} {t : TypeId} (h : RV w s a) (hr : w.heap[g]? = some (.cells #[.bool b1, v1, v2] t (0, 0))) : RV (((w.setCell ⟨g, 0, none⟩ (.bool b0)).setCell ⟨g, 1, none⟩ u1).setCell ⟨g, 2, none⟩ u2) s a := ⟨h.x.st3 hr, h.y.st3 hr, h.z.st3 hr⟩
theorem RQ.drewR {w : World} {p d : Sl} {x : Rat} (h : RQ w p d x) : RQ w.drew p d x := ⟨h.num, h.den⟩


set_option maxRecDepth 100000 in
set_option maxHeartbeats 16000000 in
theorem r11_Range_run (b n c m : Nat) (off : Nat) (T : Nat → ByteArray × ByteArray × ByteArray) (S : Nat → V3) (v : Nat → Bool) (s : ByteArray × ByteArray × ByteArray) (a : V3) (w : World) (hn : 1 ≤ n) (hn2 : n ≤ 1536) (hA : VecsAt w b off n T) (hm : m ≤ n)
    (hg : ∀ i, i < m → v i = true) (hx : m < n → v m = false) (hS : ∀ i, i < n → SzV 1000 (S i)) (ha : SzV 1000 a)
    (hF : ∀ i, i < n → ∀ W, Calls Tryz.prog 80 #[txW (T i)] W fun e w' => ∃ u : VS, e = .returned (.tuple #[.agg #[.bool (sgB (S i).x.num), .slice u.x.p.A u.x.p.n u.x.p.c, .slice u.x.d.A u.x.d.n u.x.d.c, .bool (sgB (S i).y.num), .slice u.y.p.A u.y.p.n u.y.p.c, .slice u.y.d.A u.y.d.n u.y.d.c, .bool (sgB (S i).z.num), .slice u.z.p.A u.z.p.n u.z.p.c, .slice u.z.d.A u.z.d.n u.z.d.c], .bool (v i)]) ∧ RV w' u (S i) ∧ Below W.heap.size W w')
    (hV : ∀ W, Calls Tryz.prog 80 #[txW s] W fun e w' => ∃ u : VS, e = .returned (.tuple #[.agg #[.bool (sgB a.x.num), .slice u.x.p.A u.x.p.n u.x.p.c, .slice u.x.d.A u.x.d.n u.x.d.c, .bool (sgB a.y.num), .slice u.y.p.A u.y.p.n u.y.p.c, .slice u.y.d.A u.y.d.n u.y.d.c, .bool (sgB a.z.num), .slice u.z.p.A u.z.p.n u.z.p.c, .slice u.z.d.A u.z.d.n u.z.d.c], .bool true]) ∧ RV w' u a ∧ Below W.heap.size W w') :
    Calls Tryz.prog 49 #[.slice (some ⟨b, off, none⟩) n c, txW s] w fun e w' => e = .returned (if m = n then .tuple #[.agg #[.string (rs (rngR a S n).1), .string (rs (rngR a S n).2)], .int .i64 0] else .tuple #[.agg #[.string ⟨#[]⟩, .string ⟨#[]⟩], .int .i64 1]) ∧ Below w.heap.size w w' := by
  generalize hRES : (if m = n then Value.tuple #[.agg #[.string (rs (rngR a S n).1), .string (rs (rngR a S n).2)], .int .i64 0] else .tuple #[.agg #[.string ⟨#[]⟩, .string ⟨#[]⟩], .int .i64 1]) = RES
  have HRES := Lib.hid hRES
  clear hRES
  obtain ⟨s0, s1, s2⟩ := s
  have HA := Lib.hid hA
  have HF := Lib.hid hF
  have HV := Lib.hid hV
  have HG := Lib.hid hg
  have HX := Lib.hid hx
  have HZ := Lib.hid (fun W => show Calls Tryz.prog 104 #[.int .i64 0] W fun e w' => ∃ p d : Sl, e = .returned (qW (sgB (0 : Rat).num) p d) ∧ RQ w' p d 0 ∧ Below W.heap.size W w' from r3_Int0 W)
  have HI0 := Lib.hid (fun i (hi : i < n) W su sv (ku : RV W su a) (kv : RV W sv (S i)) => r11_Inner a (S i) su sv W ku kv (ha.mono (by decide)) ((hS i hi).mono (by decide)))
  have HR := Lib.hid (fun k (hk : k ≤ n) => sz_rngR (by decide) ha hS k hk)
  have HD := Lib.hid (fun k (hk : k < n) => sz_dotI ha (hS k hk))
  clear hA hF hV hg hx hS ha
  have hn0 : ((n : Int) == 0) = false := by rw [beq_eq_false_iff_ne]; omega
  have hn5 : decide ((1536 : Int) < (n : Int)) = false := by rw [decide_eq_false_iff_not]; omega
  go_enter Tryz.func49, Tryz.ntmps49
  go_wp2_with fail
  generalize hW : (World.alloc w _).alloc _ = W
  obtain ⟨hB, hsz, R3, R4⟩ := A2 hW
  have R3 := Lib.hid R3
  have R4 := Lib.hid R4
  clear hW hsz
  obtain ⟨R3c0, R3c1, R3c2, R3f0, R3f1, R3f2⟩ := row3 R3.out
  go_wp2_with fail
  clear R3c0 R3c1 R3c2 R3f0 R3f1 R3f2
  refine (HV.out _).mono ?_
  rintro e w1 ⟨u, rfl, hu, hb⟩
  replace hB := bstep hB hb
  have R4 := Lib.hid (keep hb R4.out)
  have KU := Lib.hid hu
  clear hb hu
  go_upto_region 6 with fail
  have N64 := Lib.hid (show w.heap.size + 1 < w1.heap.size from lt_of_row R4.out)
  generalize hW : World.alloc _ _ = V
  obtain ⟨hb, hsz, R6⟩ := A1 hW
  replace hB := bstep hB hb
  have R4 := Lib.hid (keep hb R4.out)
  have KU := Lib.hid (KU.out.below hb)
  clear hb
  have R6 := Lib.hid R6
  clear hW hsz
  go_wp2_with fail
  refine (HZ.out _).mono ?_
  rintro e w2 ⟨p0, d0, rfl, h0, hb⟩
  replace hB := bstep hB hb
  have R4 := Lib.hid (keep hb R4.out)
  have R6 := Lib.hid (keep hb R6.out)
  have KU := Lib.hid (KU.out.below hb)
  have K0 := Lib.hid h0
  clear hb h0
  go_wp2_with fail
  refine (HZ.out _).mono ?_
  rintro e w3 ⟨p1, d1, rfl, h1, hb⟩
  replace hB := bstep hB hb
  have R4 := Lib.hid (keep hb R4.out)
  have R6 := Lib.hid (keep hb R6.out)
  have KU := Lib.hid (KU.out.below hb)
  have K0 := Lib.hid (K0.out.below hb)
  have K1 := Lib.hid h1
  clear hb h1
  have N86 := Lib.hid (show w1.heap.size < w3.heap.size from lt_of_row R6.out)
  go_upto_region 9 with fail
  generalize hW : (World.alloc _ _).alloc _ = X
  obtain ⟨hb, hsz, R8, R9⟩ := A2 hW
  replace hB := bstep hB hb
  have R4 := Lib.hid (keep hb R4.out)
  have R6 := Lib.hid (keep hb R6.out)
  have KU := Lib.hid (KU.out.below hb)
  have K0 := Lib.hid (K0.out.below hb)
  have K1 := Lib.hid (K1.out.below hb)
  clear hb
  have R8 := Lib.hid R8
  have R9 := Lib.hid R9
  clear hW hsz
  have N48 := Lib.hid (show w.heap.size + 1 ≠ w3.heap.size by have := N86.out; have := N64.out; omega)
  have N49 := Lib.hid (show w.heap.size + 1 ≠ w3.heap.size + 1 by have := N86.out; have := N64.out; omega)
  have N68 := Lib.hid (show w1.heap.size ≠ w3.heap.size by have := N86.out; omega)
  have N69 := Lib.hid (show w1.heap.size ≠ w3.heap.size + 1 by have := N86.out; omega)
  have N98 := Lib.hid (show w3.heap.size + 1 ≠ w3.heap.size by omega)
  have N89 := Lib.hid (show w3.heap.size ≠ w3.heap.size + 1 by omega)
  have N84 := Lib.hid (show w3.heap.size ≠ w.heap.size + 1 by have := N86.out; have := N64.out; omega)
  have N94 := Lib.hid (show w3.heap.size + 1 ≠ w.heap.size + 1 by have := N86.out; have := N64.out; omega)
  have LBR8 := Lib.hid (show w.heap.size ≤ w3.heap.size by have := N86.out; have := N64.out; omega)
  have LBR9 := Lib.hid (show w.heap.size ≤ w3.heap.size + 1 by have := N86.out; have := N64.out; omega)
  clear N64 N86
  generalize w1.heap.size = b6 at *
  generalize hb8 : w3.heap.size = b8 at *
  generalize hb9 : b8 + 1 = b9 at *
  go_wp2_with fail
  go_loopw [10] (fun x wr => ∃ (k : Nat) (pl dl ph dh : Sl), k ≤ m ∧ x = .int .i64 k ∧ Below w.heap.size w wr ∧ Hid (wr.heap[w.heap.size + 1]? = some (.cells #[.string ⟨#[]⟩, .string ⟨#[]⟩] 73 (0, 0))) ∧ Hid (wr.heap[b6]? = some (.cells #[.bool (sgB a.x.num), .slice u.x.p.A u.x.p.n u.x.p.c, .slice u.x.d.A u.x.d.n u.x.d.c, .bool (sgB a.y.num), .slice u.y.p.A u.y.p.n u.y.p.c, .slice u.y.d.A u.y.d.n u.y.d.c, .bool (sgB a.z.num), .slice u.z.p.A u.z.p.n u.z.p.c, .slice u.z.d.A u.z.d.n u.z.d.c] 104 (0, 0))) ∧ Hid (RV wr u a) ∧ Hid (wr.heap[b8]? = some (.cells #[.bool (sgB (rngR a S k).1.num), .slice pl.A pl.n pl.c, .slice dl.A dl.n dl.c] 40 (0, 0))) ∧ Hid (wr.heap[b9]? = some (.cells #[.bool (sgB (rngR a S k).2.num), .slice ph.A ph.n ph.c, .slice dh.A dh.n dh.c] 40 (0, 0))) ∧ Hid (RQ wr pl dl (rngR a S k).1) ∧ Hid (RQ wr ph dh (rngR a S k).2)) (fun x _ => n - (intOf x).toNat)
  case atStart => exact ⟨0, p0, d0, p1, d1, Nat.zero_le _, rfl, hB, R4, R6, KU, R8, R9, K0, K1⟩
  case round =>
    clear R4 R6 R8 R9 KU K0 K1 hB
    obtain ⟨k, pl, dl, ph, dh, hk, rfl, hB, R4, R6, KU, R8, R9, KL, KH⟩ := hrel
    by_cases hlt : k < m
    · have hkn : k < n := by omega
      have hf := HF.out k hkn
      rw [HG.out k hlt] at hf
      have HFk := Lib.hid hf
      have HI := Lib.hid (HI0.out k hkn)
      have hr := HR.out k (by omega)
      have hd := HD.out k hkn
      have HR1 := Lib.hid (show (rngR a S (k + 1)).1 = lstQ (if k = 0 then dotI a (S k) else (rngR a S k).1) (dotI a (S k)) from rfl)
      have HR2 := Lib.hid (show (rngR a S (k + 1)).2 = mstQ (if k = 0 then dotI a (S k) else (rngR a S k).2) (dotI a (S k)) from rfl)
      clear hf
      by_cases hk0 : k = 0
      · rw [if_pos hk0] at HR1 HR2
        have HK1 := Lib.hid (show ((k : Int) == 0) = true by rw [beq_iff_eq]; omega)
        clear hk0
        have HL := Lib.hid (fun W (p d s t : Sl) (k1 : RQ W p d (dotI a (S k))) (k2 : RQ W s t (dotI a (S k))) => r3_Least _ _ p d s t W k1 k2 (hd.mono (by decide)) (hd.mono (by decide)))
        have HM := Lib.hid (fun W (p d s t : Sl) (k1 : RQ W p d (dotI a (S k))) (k2 : RQ W s t (dotI a (S k))) => r3_Most _ _ p d s t W k1 k2 (hd.mono (by decide)) (hd.mono (by decide)))
        clear hr hd
        obtain ⟨v0, v1, v2⟩ := (HA.out.below hB) k hkn
        go_wp2_with fail
        clear v0 v1 v2
        refine (HFk.out _).mono ?_
        rintro e w5 ⟨y, rfl, hy, hb⟩
        replace hB := bstep hB hb
        have KU := Lib.hid (KU.out.below hb)
        have KL := Lib.hid (KL.out.below hb)
        have KH := Lib.hid (KH.out.below hb)
        have R4 := Lib.hid (keep hb R4.out)
        have R6 := Lib.hid (keep hb R6.out)
        have R8 := Lib.hid (keep hb R8.out)
        have R9 := Lib.hid (keep hb R9.out)
        have KY := Lib.hid hy
        clear hb hy
        go_upto_region 13 with fail
        generalize hW : World.alloc _ _ = Y
        obtain ⟨hb, hsz, RW⟩ := A1 hW
        replace hB := bstep hB hb
        have R4 := Lib.hid (keep hb R4.out)
        have R6 := Lib.hid (keep hb R6.out)
        have R8 := Lib.hid (keep hb R8.out)
        have R9 := Lib.hid (keep hb R9.out)
        have KU := Lib.hid (KU.out.below hb)
        have KL := Lib.hid (KL.out.below hb)
        have KH := Lib.hid (KH.out.below hb)
        have KY := Lib.hid (KY.out.below hb)
        clear hb
        have RW := Lib.hid RW
        clear hW hsz
        obtain ⟨k0, k1, k2, k3, k4, k5, k6, k7, k8⟩ := rowc9 R6.out
        obtain ⟨m0, m1, m2, m3, m4, m5, m6, m7, m8⟩ := rowc9 RW.out
        go_wp2_with fail
        clear k0 k1 k2 k3 k4 k5 k6 k7 k8 m0 m1 m2 m3 m4 m5 m6 m7 m8
        refine (HI.out _ _ _ KU.out KY.out).mono ?_
        rintro e w6 ⟨px, dx, rfl, hx', hb⟩
        replace hB := bstep hB hb
        have KU := Lib.hid (KU.out.below hb)
        have KL := Lib.hid (KL.out.below hb)
        have KH := Lib.hid (KH.out.below hb)
        have R4 := Lib.hid (keep hb R4.out)
        have R6 := Lib.hid (keep hb R6.out)
        have R8 := Lib.hid (keep hb R8.out)
        have R9 := Lib.hid (keep hb R9.out)
        have KX := Lib.hid hx'
        clear hb hx' RW KY
        go_upto_region 16 with fail
        have N8X := Lib.hid (lp R8.out)
        have N9X := Lib.hid (lp R9.out)
        generalize hW : World.alloc _ _ = Z
        obtain ⟨hb, hsz, RX⟩ := A1 hW
        replace hB := bstep hB hb
        have R4 := Lib.hid (keep hb R4.out)
        have R6 := Lib.hid (keep hb R6.out)
        have R8 := Lib.hid (keep hb R8.out)
        have R9 := Lib.hid (keep hb R9.out)
        have KU := Lib.hid (KU.out.below hb)
        have KL := Lib.hid (KL.out.below hb)
        have KH := Lib.hid (KH.out.below hb)
        have KX := Lib.hid (KX.out.below hb)
        clear hb
        have RX := Lib.hid RX
        clear hW hsz
        have hk1 := HK1.out
        go_upto_region 17 with fail
        clear hk1 HK1
        have n8 := N8X.out
        have n9 := N9X.out
        have n8' := N8X.out.symm
        have n9' := N9X.out.symm
        obtain ⟨RXc0, RXc1, RXc2, RXf0, RXf1, RXf2⟩ := row3 RX.out
        obtain ⟨R8c0, R8c1, R8c2, R8f0, R8f1, R8f2⟩ := row3 R8.out
        obtain ⟨R9c0, R9c1, R9c2, R9f0, R9f1, R9f2⟩ := row3 R9.out
        go_region
        clear n8 n9 n8' n9'
        clear RXc0 RXc1 RXc2 RXf0 RXf1 RXf2
        clear R8c0 R8c1 R8c2 R8f0 R8f1 R8f2
        clear R9c0 R9c1 R9c2 R9f0 R9f1 R9f2
        clear KL KH
        have KU := Lib.hid ((KU.out.st3 R8.out (b0 := (sgB (dotI a (S k)).num)) (u1 := .slice px.A px.n px.c) (u2 := .slice dx.A dx.n dx.c)).st3 (store3_other N98.out R9.out (.bool (sgB (dotI a (S k)).num)) (.slice px.A px.n px.c) (.slice dx.A dx.n dx.c)) (b0 := (sgB (dotI a (S k)).num)) (u1 := .slice px.A px.n px.c) (u2 := .slice dx.A dx.n dx.c))
        have KX := Lib.hid ((KX.out.st3 R8.out (b0 := (sgB (dotI a (S k)).num)) (u1 := .slice px.A px.n px.c) (u2 := .slice dx.A dx.n dx.c)).st3 (store3_other N98.out R9.out (.bool (sgB (dotI a (S k)).num)) (.slice px.A px.n px.c) (.slice dx.A dx.n dx.c)) (b0 := (sgB (dotI a (S k)).num)) (u1 := .slice px.A px.n px.c) (u2 := .slice dx.A dx.n dx.c))
        have R4 := Lib.hid (store3_other (N49).out (store3_other (N48).out R4.out (.bool (sgB (dotI a (S k)).num)) (.slice px.A px.n px.c) (.slice dx.A dx.n dx.c)) (.bool (sgB (dotI a (S k)).num)) (.slice px.A px.n px.c) (.slice dx.A dx.n dx.c))
        have R6 := Lib.hid (store3_other (N69).out (store3_other (N68).out R6.out (.bool (sgB (dotI a (S k)).num)) (.slice px.A px.n px.c) (.slice dx.A dx.n dx.c)) (.bool (sgB (dotI a (S k)).num)) (.slice px.A px.n px.c) (.slice dx.A dx.n dx.c))
        have RX := Lib.hid (store3_other N9X.out.symm (store3_other N8X.out.symm RX.out (.bool (sgB (dotI a (S k)).num)) (.slice px.A px.n px.c) (.slice dx.A dx.n dx.c)) (.bool (sgB (dotI a (S k)).num)) (.slice px.A px.n px.c) (.slice dx.A dx.n dx.c))
        have R8' := Lib.hid (store3_other N89.out (store3 R8.out (.bool (sgB (dotI a (S k)).num)) (.slice px.A px.n px.c) (.slice dx.A dx.n dx.c)) (.bool (sgB (dotI a (S k)).num)) (.slice px.A px.n px.c) (.slice dx.A dx.n dx.c))
        have R9 := Lib.hid (store3 (store3_other N98.out R9.out (.bool (sgB (dotI a (S k)).num)) (.slice px.A px.n px.c) (.slice dx.A dx.n dx.c)) (.bool (sgB (dotI a (S k)).num)) (.slice px.A px.n px.c) (.slice dx.A dx.n dx.c))
        have hB := store3_below (store3_below hB LBR8.out (.bool (sgB (dotI a (S k)).num)) (.slice px.A px.n px.c) (.slice dx.A dx.n dx.c)) LBR9.out (.bool (sgB (dotI a (S k)).num)) (.slice px.A px.n px.c) (.slice dx.A dx.n dx.c)
        clear R8
        have R8 := R8'
        clear R8'
        have KL := KX
        have KH := KX
        generalize World.setCell (World.setCell (World.setCell (World.setCell (World.setCell (World.setCell _ _ _) _ _) _ _) _ _) _ _) _ _ = Z1 at *
        have hZ := Below.drew (Below.refl Z1.heap.size Z1)
        replace hB := bstep hB hZ
        have R4 := Lib.hid (keep hZ R4.out)
        have R6 := Lib.hid (keep hZ R6.out)
        have R8 := Lib.hid (keep hZ R8.out)
        have R9 := Lib.hid (keep hZ R9.out)
        have RX := Lib.hid (keep hZ RX.out)
        have KU := Lib.hid (KU.out.below hZ)
        have KX := Lib.hid (KX.out.below hZ)
        have KL := Lib.hid (KL.out.below hZ)
        have KH := Lib.hid (KH.out.below hZ)
        clear hZ
        generalize World.drew Z1 = Z2 at *
        go_upto_region 18 with fail
        refine wp_region_late (fun W => Below Z2.heap.size Z2 W) (fun j => j == 6 || j == 7) (by kernel_rfl) ?_
        have hS0 : Below Z2.heap.size Z2 Z2.drew := Below.drew (Below.refl _ _)
        refine wpLate_take 0 2 (oi := ({ dst := some 56, op := Go.Op.load 40 (Go.Operand.tmp 8), type := 40, pos := "ref.go:211", after := #[], guard := none } : Oper)) (v := .agg #[.bool (sgB (dotI a (S k)).num), .slice px.A px.n px.c, .slice dx.A dx.n dx.c]) rfl (by kernel_rfl) (by kernel_rfl) (by kernel_rfl) (by kernel_rfl) (by kernel_rfl) (by kernel_rfl) (fun _ _ _ h => h) (Or.inl ⟨rfl, fun W hW => ?_⟩) hS0 ?_
        · obtain ⟨t0, t1, t2⟩ := rowc3 (keep hW R8.out)
          go_simp
        try simp only [Act.put, List.setIfInBounds_toArray, List.set_cons_zero, List.set_cons_succ]
        refine wpLate_take 1 2 (oi := ({ dst := some 57, op := Go.Op.load 40 (Go.Operand.tmp 13), type := 40, pos := "ref.go:211", after := #[], guard := none } : Oper)) (v := .agg #[.bool (sgB (dotI a (S k)).num), .slice px.A px.n px.c, .slice dx.A dx.n dx.c]) rfl (by kernel_rfl) (by kernel_rfl) (by kernel_rfl) (by kernel_rfl) (by kernel_rfl) (by kernel_rfl) (fun _ _ _ h => h) (Or.inl ⟨rfl, fun W hW => ?_⟩) hS0 ?_
        · obtain ⟨t0, t1, t2⟩ := rowc3 (keep hW RX.out)
          go_simp
        try simp only [Act.put, List.setIfInBounds_toArray, List.set_cons_zero, List.set_cons_succ]
        refine wpLate_take 3 5 (oi := ({ dst := some 59, op := Go.Op.load 40 (Go.Operand.tmp 9), type := 40, pos := "ref.go:211", after := #[], guard := none } : Oper)) (v := .agg #[.bool (sgB (dotI a (S k)).num), .slice px.A px.n px.c, .slice dx.A dx.n dx.c]) rfl (by kernel_rfl) (by kernel_rfl) (by kernel_rfl) (by kernel_rfl) (by kernel_rfl) (by kernel_rfl) (fun _ _ _ h => h) (Or.inl ⟨rfl, fun W hW => ?_⟩) hS0 ?_
        · obtain ⟨t0, t1, t2⟩ := rowc3 (keep hW R9.out)
          go_simp
        try simp only [Act.put, List.setIfInBounds_toArray, List.set_cons_zero, List.set_cons_succ]
        refine wpLate_take 4 5 (oi := ({ dst := some 60, op := Go.Op.load 40 (Go.Operand.tmp 13), type := 40, pos := "ref.go:211", after := #[], guard := none } : Oper)) (v := .agg #[.bool (sgB (dotI a (S k)).num), .slice px.A px.n px.c, .slice dx.A dx.n dx.c]) rfl (by kernel_rfl) (by kernel_rfl) (by kernel_rfl) (by kernel_rfl) (by kernel_rfl) (by kernel_rfl) (fun _ _ _ h => h) (Or.inl ⟨rfl, fun W hW => ?_⟩) hS0 ?_
        · obtain ⟨t0, t1, t2⟩ := rowc3 (keep hW RX.out)
          go_simp
        try simp only [Act.put, List.setIfInBounds_toArray, List.set_cons_zero, List.set_cons_succ]
        refine wpLate_one 2 (o := ({ dst := some 58, op := Go.Op.call { callee := Go.Callee.value (Go.Operand.func 115), args := #[Go.Operand.tmp 56, Go.Operand.tmp 57], argTypes := #[40, 40] }, type := 40, pos := "ref.go:211", after := #[{ on := 0, ground := Go.Ground.data }, { on := 1, ground := Go.Ground.data }], guard := none } : Oper)) (by kernel_rfl) rfl rfl (fun K hK => ?_)
        go_simp
        go_at_call 115
        refine (HL.out _ px dx px dx (KL.out.below hS0) (KX.out.below hS0)).mono ?_
        rintro e wl ⟨pl', dl', rfl, hk, hb⟩
        go_wp2_with fail
        have hS1 := bstep hS0 hb
        have KP := Lib.hid hk
        clear hk hb
        refine hK.out _ _ (fun _ => hS1) ?_
        clear hK K
        try simp only [Act.put, List.setIfInBounds_toArray, List.set_cons_zero, List.set_cons_succ]
        refine wpLate_one 5 (o := ({ dst := some 61, op := Go.Op.call { callee := Go.Callee.value (Go.Operand.func 116), args := #[Go.Operand.tmp 59, Go.Operand.tmp 60], argTypes := #[40, 40] }, type := 40, pos := "ref.go:211", after := #[{ on := 3, ground := Go.Ground.data }, { on := 4, ground := Go.Ground.data }, { on := 2, ground := Go.Ground.chain }], guard := none } : Oper)) (by kernel_rfl) rfl rfl (fun K hK => ?_)
        go_simp
        go_at_call 116
        refine (HM.out _ px dx px dx (KH.out.below hS1) (KX.out.below hS1)).mono ?_
        rintro e wm ⟨ph', dh', rfl, hk, hb⟩
        go_wp2_with fail
        have hS2 := bstep hS1 hb
        have KP := Lib.hid (KP.out.below hb)
        have KQ := Lib.hid hk
        clear hk hb
        refine hK.out _ _ (fun _ => hS2) ?_
        clear hK K
        try simp only [Act.put, List.setIfInBounds_toArray, List.set_cons_zero, List.set_cons_succ]
        have hB := bstep hB hS2
        have KU := Lib.hid (KU.out.below hS2)
        have R4 := Lib.hid (keep hS2 R4.out)
        have R6 := Lib.hid (keep hS2 R6.out)
        have R8 := Lib.hid (keep hS2 R8.out)
        have R9 := Lib.hid (keep hS2 R9.out)
        clear hS0 hS1 hS2
        refine wpLate_one 6 (o := ({ dst := none, op := Go.Op.store 40 (Go.Operand.tmp 8) (Go.Operand.tmp 58), type := 0, pos := "ref.go:211", after := #[{ on := 2, ground := Go.Ground.data }, { on := 5, ground := Go.Ground.chain }, { on := 0, ground := Go.Ground.phase }, { on := 1, ground := Go.Ground.phase }, { on := 2, ground := Go.Ground.phase }, { on := 3, ground := Go.Ground.textOnly Go.Departure.lateStores }, { on := 4, ground := Go.Ground.textOnly Go.Departure.lateStores }, { on := 5, ground := Go.Ground.textOnly Go.Departure.lateStoresUnsure }], guard := none } : Oper)) (by kernel_rfl) rfl rfl (fun K hK => ?_)
        obtain ⟨t0, t1, t2, t3, t4, t5⟩ := row3 R8.out
        go_simp
        clear t0 t1 t2 t3 t4 t5
        refine hK.out _ _ (fun h => absurd h (by decide)) ?_
        clear hK K
        try simp only [Act.put, List.setIfInBounds_toArray, List.set_cons_zero, List.set_cons_succ]
        have KP := Lib.hid (KP.out.st3 R8.out (b0 := (sgB (lstQ (dotI a (S k)) (dotI a (S k))).num)) (u1 := .slice pl'.A pl'.n pl'.c) (u2 := .slice dl'.A dl'.n dl'.c))
        have KQ := Lib.hid (KQ.out.st3 R8.out (b0 := (sgB (lstQ (dotI a (S k)) (dotI a (S k))).num)) (u1 := .slice pl'.A pl'.n pl'.c) (u2 := .slice dl'.A dl'.n dl'.c))
        have KU := Lib.hid (KU.out.st3 R8.out (b0 := (sgB (lstQ (dotI a (S k)) (dotI a (S k))).num)) (u1 := .slice pl'.A pl'.n pl'.c) (u2 := .slice dl'.A dl'.n dl'.c))
        have R4 := Lib.hid (store3_other N48.out R4.out (.bool (sgB (lstQ (dotI a (S k)) (dotI a (S k))).num)) (.slice pl'.A pl'.n pl'.c) (.slice dl'.A dl'.n dl'.c))
        have R6 := Lib.hid (store3_other N68.out R6.out (.bool (sgB (lstQ (dotI a (S k)) (dotI a (S k))).num)) (.slice pl'.A pl'.n pl'.c) (.slice dl'.A dl'.n dl'.c))
        have R9 := Lib.hid (store3_other N98.out R9.out (.bool (sgB (lstQ (dotI a (S k)) (dotI a (S k))).num)) (.slice pl'.A pl'.n pl'.c) (.slice dl'.A dl'.n dl'.c))
        have R8 := Lib.hid (store3 R8.out (.bool (sgB (lstQ (dotI a (S k)) (dotI a (S k))).num)) (.slice pl'.A pl'.n pl'.c) (.slice dl'.A dl'.n dl'.c))
        have hB := store3_below hB LBR8.out (.bool (sgB (lstQ (dotI a (S k)) (dotI a (S k))).num)) (.slice pl'.A pl'.n pl'.c) (.slice dl'.A dl'.n dl'.c)
        generalize World.setCell (World.setCell (World.setCell _ _ _) _ _) _ _ = X1 at *
        refine wpLate_one 7 (o := ({ dst := none, op := Go.Op.store 40 (Go.Operand.tmp 9) (Go.Operand.tmp 61), type := 0, pos := "ref.go:211", after := #[{ on := 5, ground := Go.Ground.data }, { on := 6, ground := Go.Ground.chain }, { on := 0, ground := Go.Ground.phase }, { on := 1, ground := Go.Ground.phase }, { on := 2, ground := Go.Ground.phase }, { on := 3, ground := Go.Ground.phase }, { on := 4, ground := Go.Ground.phase }, { on := 5, ground := Go.Ground.phase }, { on := 6, ground := Go.Ground.phase }], guard := none } : Oper)) (by kernel_rfl) rfl rfl (fun K hK => ?_)
        obtain ⟨t0, t1, t2, t3, t4, t5⟩ := row3 R9.out
        go_simp
        clear t0 t1 t2 t3 t4 t5
        refine hK.out _ _ (fun h => absurd h (by decide)) ?_
        clear hK K
        try simp only [Act.put, List.setIfInBounds_toArray, List.set_cons_zero, List.set_cons_succ]
        have KP := Lib.hid (KP.out.st3 R9.out (b0 := (sgB (mstQ (dotI a (S k)) (dotI a (S k))).num)) (u1 := .slice ph'.A ph'.n ph'.c) (u2 := .slice dh'.A dh'.n dh'.c))
        have KQ := Lib.hid (KQ.out.st3 R9.out (b0 := (sgB (mstQ (dotI a (S k)) (dotI a (S k))).num)) (u1 := .slice ph'.A ph'.n ph'.c) (u2 := .slice dh'.A dh'.n dh'.c))
        have KU := Lib.hid (KU.out.st3 R9.out (b0 := (sgB (mstQ (dotI a (S k)) (dotI a (S k))).num)) (u1 := .slice ph'.A ph'.n ph'.c) (u2 := .slice dh'.A dh'.n dh'.c))
        have R4 := Lib.hid (store3_other N49.out R4.out (.bool (sgB (mstQ (dotI a (S k)) (dotI a (S k))).num)) (.slice ph'.A ph'.n ph'.c) (.slice dh'.A dh'.n dh'.c))
        have R6 := Lib.hid (store3_other N69.out R6.out (.bool (sgB (mstQ (dotI a (S k)) (dotI a (S k))).num)) (.slice ph'.A ph'.n ph'.c) (.slice dh'.A dh'.n dh'.c))
        have R8 := Lib.hid (store3_other N89.out R8.out (.bool (sgB (mstQ (dotI a (S k)) (dotI a (S k))).num)) (.slice ph'.A ph'.n ph'.c) (.slice dh'.A dh'.n dh'.c))
        have R9 := Lib.hid (store3 R9.out (.bool (sgB (mstQ (dotI a (S k)) (dotI a (S k))).num)) (.slice ph'.A ph'.n ph'.c) (.slice dh'.A dh'.n dh'.c))
        have hB := store3_below hB LBR9.out (.bool (sgB (mstQ (dotI a (S k)) (dotI a (S k))).num)) (.slice ph'.A ph'.n ph'.c) (.slice dh'.A dh'.n dh'.c)
        generalize World.setCell (World.setCell (World.setCell _ _ _) _ _) _ _ = X2 at *
        refine wpLate_done (by kernel_rfl) ?_ _
        go_wp2_with fail
        go_roundw
        case rel => exact ⟨k + 1, pl', dl', ph', dh', hlt, by go_num, hB, R4, R6, KU, Lib.hid (by rw [HR1.out]; exact R8.out), Lib.hid (by rw [HR2.out]; exact R9.out), Lib.hid (by rw [HR1.out]; exact KP.out), Lib.hid (by rw [HR2.out]; exact KQ.out)⟩
        case measure => simp [intOf]; omega
      · rw [if_neg hk0] at HR1 HR2
        have HL := Lib.hid (fun W (p d s t : Sl) (k1 : RQ W p d (rngR a S k).1) (k2 : RQ W s t (dotI a (S k))) => r3_Least _ _ p d s t W k1 k2 (hr.1.mono (by decide)) (hd.mono (by decide)))
        have HM := Lib.hid (fun W (p d s t : Sl) (k1 : RQ W p d (rngR a S k).2) (k2 : RQ W s t (dotI a (S k))) => r3_Most _ _ p d s t W k1 k2 (hr.2.mono (by decide)) (hd.mono (by decide)))
        clear hr hd
        obtain ⟨v0, v1, v2⟩ := (HA.out.below hB) k hkn
        go_wp2_with fail
        clear v0 v1 v2
        refine (HFk.out _).mono ?_
        rintro e w5 ⟨y, rfl, hy, hb⟩
        replace hB := bstep hB hb
        have KU := Lib.hid (KU.out.below hb)
        have KL := Lib.hid (KL.out.below hb)
        have KH := Lib.hid (KH.out.below hb)
        have R4 := Lib.hid (keep hb R4.out)
        have R6 := Lib.hid (keep hb R6.out)
        have R8 := Lib.hid (keep hb R8.out)
        have R9 := Lib.hid (keep hb R9.out)
        have KY := Lib.hid hy
        clear hb hy
        go_upto_region 13 with fail
        generalize hW : World.alloc _ _ = Y
        obtain ⟨hb, hsz, RW⟩ := A1 hW
        replace hB := bstep hB hb
        have R4 := Lib.hid (keep hb R4.out)
        have R6 := Lib.hid (keep hb R6.out)
        have R8 := Lib.hid (keep hb R8.out)
        have R9 := Lib.hid (keep hb R9.out)
        have KU := Lib.hid (KU.out.below hb)
        have KL := Lib.hid (KL.out.below hb)
        have KH := Lib.hid (KH.out.below hb)
        have KY := Lib.hid (KY.out.below hb)
        clear hb
        have RW := Lib.hid RW
        clear hW hsz
        obtain ⟨k0, k1, k2, k3, k4, k5, k6, k7, k8⟩ := rowc9 R6.out
        obtain ⟨m0, m1, m2, m3, m4, m5, m6, m7, m8⟩ := rowc9 RW.out
        go_wp2_with fail
        clear k0 k1 k2 k3 k4 k5 k6 k7 k8 m0 m1 m2 m3 m4 m5 m6 m7 m8
        refine (HI.out _ _ _ KU.out KY.out).mono ?_
        rintro e w6 ⟨px, dx, rfl, hx', hb⟩
        replace hB := bstep hB hb
        have KU := Lib.hid (KU.out.below hb)
        have KL := Lib.hid (KL.out.below hb)
        have KH := Lib.hid (KH.out.below hb)
        have R4 := Lib.hid (keep hb R4.out)
        have R6 := Lib.hid (keep hb R6.out)
        have R8 := Lib.hid (keep hb R8.out)
        have R9 := Lib.hid (keep hb R9.out)
        have KX := Lib.hid hx'
        clear hb hx' RW KY
        go_upto_region 16 with fail
        have N8X := Lib.hid (lp R8.out)
        have N9X := Lib.hid (lp R9.out)
        generalize hW : World.alloc _ _ = Z
        obtain ⟨hb, hsz, RX⟩ := A1 hW
        replace hB := bstep hB hb
        have R4 := Lib.hid (keep hb R4.out)
        have R6 := Lib.hid (keep hb R6.out)
        have R8 := Lib.hid (keep hb R8.out)
        have R9 := Lib.hid (keep hb R9.out)
        have KU := Lib.hid (KU.out.below hb)
        have KL := Lib.hid (KL.out.below hb)
        have KH := Lib.hid (KH.out.below hb)
        have KX := Lib.hid (KX.out.below hb)
        clear hb
        have RX := Lib.hid RX
        clear hW hsz
        have hk1 : ((k : Int) == 0) = false := by rw [beq_eq_false_iff_ne]; omega
        go_upto_region 18 with fail
        refine wp_region_late (fun W => Below Z.heap.size Z W) (fun j => j == 6 || j == 7) (by kernel_rfl) ?_
        have hS0 : Below Z.heap.size Z Z.drew := Below.drew (Below.refl _ _)
        refine wpLate_take 0 2 (oi := ({ dst := some 56, op := Go.Op.load 40 (Go.Operand.tmp 8), type := 40, pos := "ref.go:211", after := #[], guard := none } : Oper)) (v := .agg #[.bool (sgB (rngR a S k).1.num), .slice pl.A pl.n pl.c, .slice dl.A dl.n dl.c]) rfl (by kernel_rfl) (by kernel_rfl) (by kernel_rfl) (by kernel_rfl) (by kernel_rfl) (by kernel_rfl) (fun _ _ _ h => h) (Or.inl ⟨rfl, fun W hW => ?_⟩) hS0 ?_
        · obtain ⟨t0, t1, t2⟩ := rowc3 (keep hW R8.out)
          go_simp
        try simp only [Act.put, List.setIfInBounds_toArray, List.set_cons_zero, List.set_cons_succ]
        refine wpLate_take 1 2 (oi := ({ dst := some 57, op := Go.Op.load 40 (Go.Operand.tmp 13), type := 40, pos := "ref.go:211", after := #[], guard := none } : Oper)) (v := .agg #[.bool (sgB (dotI a (S k)).num), .slice px.A px.n px.c, .slice dx.A dx.n dx.c]) rfl (by kernel_rfl) (by kernel_rfl) (by kernel_rfl) (by kernel_rfl) (by kernel_rfl) (by kernel_rfl) (fun _ _ _ h => h) (Or.inl ⟨rfl, fun W hW => ?_⟩) hS0 ?_
        · obtain ⟨t0, t1, t2⟩ := rowc3 (keep hW RX.out)
          go_simp
        try simp only [Act.put, List.setIfInBounds_toArray, List.set_cons_zero, List.set_cons_succ]
        refine wpLate_take 3 5 (oi := ({ dst := some 59, op := Go.Op.load 40 (Go.Operand.tmp 9), type := 40, pos := "ref.go:211", after := #[], guard := none } : Oper)) (v := .agg #[.bool (sgB (rngR a S k).2.num), .slice ph.A ph.n ph.c, .slice dh.A dh.n dh.c]) rfl (by kernel_rfl) (by kernel_rfl) (by kernel_rfl) (by kernel_rfl) (by kernel_rfl) (by kernel_rfl) (fun _ _ _ h => h) (Or.inl ⟨rfl, fun W hW => ?_⟩) hS0 ?_
        · obtain ⟨t0, t1, t2⟩ := rowc3 (keep hW R9.out)
          go_simp
        try simp only [Act.put, List.setIfInBounds_toArray, List.set_cons_zero, List.set_cons_succ]
        refine wpLate_take 4 5 (oi := ({ dst := some 60, op := Go.Op.load 40 (Go.Operand.tmp 13), type := 40, pos := "ref.go:211", after := #[], guard := none } : Oper)) (v := .agg #[.bool (sgB (dotI a (S k)).num), .slice px.A px.n px.c, .slice dx.A dx.n dx.c]) rfl (by kernel_rfl) (by kernel_rfl) (by kernel_rfl) (by kernel_rfl) (by kernel_rfl) (by kernel_rfl) (fun _ _ _ h => h) (Or.inl ⟨rfl, fun W hW => ?_⟩) hS0 ?_
        · obtain ⟨t0, t1, t2⟩ := rowc3 (keep hW RX.out)
          go_simp
        try simp only [Act.put, List.setIfInBounds_toArray, List.set_cons_zero, List.set_cons_succ]
        refine wpLate_one 2 (o := ({ dst := some 58, op := Go.Op.call { callee := Go.Callee.value (Go.Operand.func 115), args := #[Go.Operand.tmp 56, Go.Operand.tmp 57], argTypes := #[40, 40] }, type := 40, pos := "ref.go:211", after := #[{ on := 0, ground := Go.Ground.data }, { on := 1, ground := Go.Ground.data }], guard := none } : Oper)) (by kernel_rfl) rfl rfl (fun K hK => ?_)
        go_simp
        go_at_call 115
        refine (HL.out _ pl dl px dx (KL.out.below hS0) (KX.out.below hS0)).mono ?_
        rintro e wl ⟨pl', dl', rfl, hk, hb⟩
        go_wp2_with fail
        have hS1 := bstep hS0 hb
        have KP := Lib.hid hk
        clear hk hb
        refine hK.out _ _ (fun _ => hS1) ?_
        clear hK K
        try simp only [Act.put, List.setIfInBounds_toArray, List.set_cons_zero, List.set_cons_succ]
        refine wpLate_one 5 (o := ({ dst := some 61, op := Go.Op.call { callee := Go.Callee.value (Go.Operand.func 116), args := #[Go.Operand.tmp 59, Go.Operand.tmp 60], argTypes := #[40, 40] }, type := 40, pos := "ref.go:211", after := #[{ on := 3, ground := Go.Ground.data }, { on := 4, ground := Go.Ground.data }, { on := 2, ground := Go.Ground.chain }], guard := none } : Oper)) (by kernel_rfl) rfl rfl (fun K hK => ?_)
        go_simp
        go_at_call 116
        refine (HM.out _ ph dh px dx (KH.out.below hS1) (KX.out.below hS1)).mono ?_
        rintro e wm ⟨ph', dh', rfl, hk, hb⟩
        go_wp2_with fail
        have hS2 := bstep hS1 hb
        have KP := Lib.hid (KP.out.below hb)
        have KQ := Lib.hid hk
        clear hk hb
        refine hK.out _ _ (fun _ => hS2) ?_
        clear hK K
        try simp only [Act.put, List.setIfInBounds_toArray, List.set_cons_zero, List.set_cons_succ]
        have hB := bstep hB hS2
        have KU := Lib.hid (KU.out.below hS2)
        have R4 := Lib.hid (keep hS2 R4.out)
        have R6 := Lib.hid (keep hS2 R6.out)
        have R8 := Lib.hid (keep hS2 R8.out)
        have R9 := Lib.hid (keep hS2 R9.out)
        clear hS0 hS1 hS2
        refine wpLate_one 6 (o := ({ dst := none, op := Go.Op.store 40 (Go.Operand.tmp 8) (Go.Operand.tmp 58), type := 0, pos := "ref.go:211", after := #[{ on := 2, ground := Go.Ground.data }, { on := 5, ground := Go.Ground.chain }, { on := 0, ground := Go.Ground.phase }, { on := 1, ground := Go.Ground.phase }, { on := 2, ground := Go.Ground.phase }, { on := 3, ground := Go.Ground.textOnly Go.Departure.lateStores }, { on := 4, ground := Go.Ground.textOnly Go.Departure.lateStores }, { on := 5, ground := Go.Ground.textOnly Go.Departure.lateStoresUnsure }], guard := none } : Oper)) (by kernel_rfl) rfl rfl (fun K hK => ?_)
        obtain ⟨t0, t1, t2, t3, t4, t5⟩ := row3 R8.out
        go_simp
        clear t0 t1 t2 t3 t4 t5
        refine hK.out _ _ (fun h => absurd h (by decide)) ?_
        clear hK K
        try simp only [Act.put, List.setIfInBounds_toArray, List.set_cons_zero, List.set_cons_succ]
        have KP := Lib.hid (KP.out.st3 R8.out (b0 := (sgB (lstQ (rngR a S k).1 (dotI a (S k))).num)) (u1 := .slice pl'.A pl'.n pl'.c) (u2 := .slice dl'.A dl'.n dl'.c))
        have KQ := Lib.hid (KQ.out.st3 R8.out (b0 := (sgB (lstQ (rngR a S k).1 (dotI a (S k))).num)) (u1 := .slice pl'.A pl'.n pl'.c) (u2 := .slice dl'.A dl'.n dl'.c))
        have KU := Lib.hid (KU.out.st3 R8.out (b0 := (sgB (lstQ (rngR a S k).1 (dotI a (S k))).num)) (u1 := .slice pl'.A pl'.n pl'.c) (u2 := .slice dl'.A dl'.n dl'.c))
        have R4 := Lib.hid (store3_other N48.out R4.out (.bool (sgB (lstQ (rngR a S k).1 (dotI a (S k))).num)) (.slice pl'.A pl'.n pl'.c) (.slice dl'.A dl'.n dl'.c))
        have R6 := Lib.hid (store3_other N68.out R6.out (.bool (sgB (lstQ (rngR a S k).1 (dotI a (S k))).num)) (.slice pl'.A pl'.n pl'.c) (.slice dl'.A dl'.n dl'.c))
        have R9 := Lib.hid (store3_other N98.out R9.out (.bool (sgB (lstQ (rngR a S k).1 (dotI a (S k))).num)) (.slice pl'.A pl'.n pl'.c) (.slice dl'.A dl'.n dl'.c))
        have R8 := Lib.hid (store3 R8.out (.bool (sgB (lstQ (rngR a S k).1 (dotI a (S k))).num)) (.slice pl'.A pl'.n pl'.c) (.slice dl'.A dl'.n dl'.c))
        have hB := store3_below hB LBR8.out (.bool (sgB (lstQ (rngR a S k).1 (dotI a (S k))).num)) (.slice pl'.A pl'.n pl'.c) (.slice dl'.A dl'.n dl'.c)
        generalize World.setCell (World.setCell (World.setCell _ _ _) _ _) _ _ = X1 at *
        refine wpLate_one 7 (o := ({ dst := none, op := Go.Op.store 40 (Go.Operand.tmp 9) (Go.Operand.tmp 61), type := 0, pos := "ref.go:211", after := #[{ on := 5, ground := Go.Ground.data }, { on := 6, ground := Go.Ground.chain }, { on := 0, ground := Go.Ground.phase }, { on := 1, ground := Go.Ground.phase }, { on := 2, ground := Go.Ground.phase }, { on := 3, ground := Go.Ground.phase }, { on := 4, ground := Go.Ground.phase }, { on := 5, ground := Go.Ground.phase }, { on := 6, ground := Go.Ground.phase }], guard := none } : Oper)) (by kernel_rfl) rfl rfl (fun K hK => ?_)
        obtain ⟨t0, t1, t2, t3, t4, t5⟩ := row3 R9.out
        go_simp
        clear t0 t1 t2 t3 t4 t5
        refine hK.out _ _ (fun h => absurd h (by decide)) ?_
        clear hK K
        try simp only [Act.put, List.setIfInBounds_toArray, List.set_cons_zero, List.set_cons_succ]
        have KP := Lib.hid (KP.out.st3 R9.out (b0 := (sgB (mstQ (rngR a S k).2 (dotI a (S k))).num)) (u1 := .slice ph'.A ph'.n ph'.c) (u2 := .slice dh'.A dh'.n dh'.c))
        have KQ := Lib.hid (KQ.out.st3 R9.out (b0 := (sgB (mstQ (rngR a S k).2 (dotI a (S k))).num)) (u1 := .slice ph'.A ph'.n ph'.c) (u2 := .slice dh'.A dh'.n dh'.c))
        have KU := Lib.hid (KU.out.st3 R9.out (b0 := (sgB (mstQ (rngR a S k).2 (dotI a (S k))).num)) (u1 := .slice ph'.A ph'.n ph'.c) (u2 := .slice dh'.A dh'.n dh'.c))
        have R4 := Lib.hid (store3_other N49.out R4.out (.bool (sgB (mstQ (rngR a S k).2 (dotI a (S k))).num)) (.slice ph'.A ph'.n ph'.c) (.slice dh'.A dh'.n dh'.c))
        have R6 := Lib.hid (store3_other N69.out R6.out (.bool (sgB (mstQ (rngR a S k).2 (dotI a (S k))).num)) (.slice ph'.A ph'.n ph'.c) (.slice dh'.A dh'.n dh'.c))
        have R8 := Lib.hid (store3_other N89.out R8.out (.bool (sgB (mstQ (rngR a S k).2 (dotI a (S k))).num)) (.slice ph'.A ph'.n ph'.c) (.slice dh'.A dh'.n dh'.c))
        have R9 := Lib.hid (store3 R9.out (.bool (sgB (mstQ (rngR a S k).2 (dotI a (S k))).num)) (.slice ph'.A ph'.n ph'.c) (.slice dh'.A dh'.n dh'.c))
        have hB := store3_below hB LBR9.out (.bool (sgB (mstQ (rngR a S k).2 (dotI a (S k))).num)) (.slice ph'.A ph'.n ph'.c) (.slice dh'.A dh'.n dh'.c)
        generalize World.setCell (World.setCell (World.setCell _ _ _) _ _) _ _ = X2 at *
        refine wpLate_done (by kernel_rfl) ?_ _
        go_wp2_with fail
        go_roundw
        case rel => exact ⟨k + 1, pl', dl', ph', dh', hlt, by go_num, hB, R4, R6, KU, Lib.hid (by rw [HR1.out]; exact R8.out), Lib.hid (by rw [HR2.out]; exact R9.out), Lib.hid (by rw [HR1.out]; exact KP.out), Lib.hid (by rw [HR2.out]; exact KQ.out)⟩
        case measure => simp [intOf]; omega
    · by_cases hmn : m = n
      · have hkn : k = n := by omega
        have hres := HRES.out
        rw [if_pos hmn] at hres
        have HRES := Lib.hid hres
        subst hmn hkn
        have hz := HR.out k (Nat.le_refl _)
        have T1 := Lib.hid (fun W (hb : Below wr.heap.size wr W) => r3_To _ _ _ W (KL.out.below hb) (hz.1.mono (by decide)))
        have T2 := Lib.hid (fun W (hb : Below wr.heap.size wr W) => r3_To _ _ _ W (KH.out.below hb) (hz.2.mono (by decide)))
        clear hz hres KL KH KU R6
        go_upto_region 19 with fail
        have LR8 := fun (w' : World) (h : Ap (w.heap.size + 1) (w.heap.size + 1) wr w') => rowc3 (h.row R8.out N84.out N84.out)
        have LR9 := fun (w' : World) (h : Ap (w.heap.size + 1) (w.heap.size + 1) wr w') => rowc3 (h.row R9.out N94.out N94.out)
        have hvr := Below.refl wr.heap.size wr
        have hv0 := hvr.drew
        first
        | go_region_held3 (fun w' => Ap (w.heap.size + 1) (w.heap.size + 1) wr w') (first | (with_reducible assumption) | (with_reducible exact Ap.refl _ _ _) | ((repeat (first | with_reducible assumption | with_reducible exact Ap.refl _ _ _ | with_reducible refine Ap.drew ?_ | with_reducible refine Ap.alloc ?_ | with_reducible refine Ap.set1 ?_ | with_reducible refine Ap.set2 ?_ | with_reducible refine Ap.setN (by first | with_reducible assumption | with_reducible exact Nat.le_refl _ | with_reducible exact Nat.le_add_right _ _ | with_reducible exact Nat.le_trans (by assumption) (Nat.le_add_right _ _)) ?_)); done))
            (first
              | (go_at_call 44; (with_reducible refine (T1.out _ (by first | with_reducible exact hv0)).mono ?_); rintro e wq0 ⟨rfl, hb⟩; have hv1 : Below wr.heap.size wr wq0 := (by first | with_reducible exact bstep (hv0) hb); have hs1 := Ap.of_below (g := w.heap.size + 1) (h := w.heap.size + 1) hv1; have sz1 := hv1.size; clear hb)
              | (go_at_call 44; (with_reducible refine (T2.out _ (by first | with_reducible exact hv1)).mono ?_); rintro e wq1 ⟨rfl, hb⟩; have hv2 : Below wr.heap.size wr wq1 := (by first | with_reducible exact bstep (hv1) hb); have hs2 := Ap.of_below (g := w.heap.size + 1) (h := w.heap.size + 1) hv2; have sz2 := hv2.size; have RoX := keep hv2 R4.out; obtain ⟨RoF0, RoF1, RoF2, RoF3⟩ := row2 RoX; clear hb))
        | fail
        all_goals
          go_wp2_with fail
          exact bodyPost_ret (res_ct rfl ivl_row rfl (store2 RoX _ _) rfl) rfl ⟨congrArg Ending.returned HRES.out, store2_below (bstep hB hv2) (by omega) _ _⟩
      · have hkn : k < n := by omega
        obtain rfl : m = k := by omega
        have hf := HF.out m hkn
        rw [HX.out hkn] at hf
        have HFk := Lib.hid hf
        have hres := HRES.out
        rw [if_neg hmn] at hres
        have HRES := Lib.hid hres
        clear hf hres hlt hmn hk
        obtain ⟨v0, v1, v2⟩ := (HA.out.below hB) m hkn
        go_wp2_with fail
        clear v0 v1 v2
        refine (HFk.out _).mono ?_
        rintro e w5 ⟨y, rfl, hy, hb⟩
        replace hB := bstep hB hb
        have KU := Lib.hid (KU.out.below hb)
        have KL := Lib.hid (KL.out.below hb)
        have KH := Lib.hid (KH.out.below hb)
        have R4 := Lib.hid (keep hb R4.out)
        have R6 := Lib.hid (keep hb R6.out)
        have R8 := Lib.hid (keep hb R8.out)
        have R9 := Lib.hid (keep hb R9.out)
        have KY := Lib.hid hy
        clear hb hy
        go_upto_region 13 with fail
        generalize hW : World.alloc _ _ = Y
        obtain ⟨hb, hsz, RW⟩ := A1 hW
        replace hB := bstep hB hb
        have R4 := Lib.hid (keep hb R4.out)
        have R6 := Lib.hid (keep hb R6.out)
        have R8 := Lib.hid (keep hb R8.out)
        have R9 := Lib.hid (keep hb R9.out)
        have KU := Lib.hid (KU.out.below hb)
        have KL := Lib.hid (KL.out.below hb)
        have KH := Lib.hid (KH.out.below hb)
        have KY := Lib.hid (KY.out.below hb)
        clear hb
        have RW := Lib.hid RW
        clear hW hsz
        obtain ⟨R4c0, R4c1, R4f0, R4f1⟩ := row2 R4.out
        go_wp2_with fail
        exact bodyPost_ret (res_ct rfl ivl_row rfl (store2 R4.out _ _) rfl) rfl ⟨congrArg Ending.returned HRES.out, store2_below hB (by omega) _ _⟩

end Go.Proofs.YtgbabmkclojgeaaGreatDoor
