/- A PART OF THE PROOF, JOINED OUT OF 3 TEXTS. -/
import Derived.Test.YthkkdepppjiaeaaGreatDoorPhInteger
import Derived.OrdersHeld
import Derived.Test.YthkkdepppjiaeaaGreatDoorPmVector
import Derived.Lib.SliceRun
import Derived.Test.YthkkdepppjiaeaaGreatDoorQmRef
import Derived.Test.YthkkdepppjiaeaaGreatDoorQoApart
import Derived.BigRegion
/- A region that draws its order, whose last operations write what its first ones load: each such load may be taken first, if whatever writes waits for an operation that waits for the load. -/
namespace Go.Proofs.YthkkdepppjiaeaaGreatDoor
open Go.RowKit Go.Shelf Go.Sort

/-- Whatever order is picked from here on; S holds behind every operation that is not late. -/
def wpLate (P : Program) (md : Region.Mode) (ops : Array Oper) (Q : Exit → Act → World → Prop) (S : World → Prop) (late : Nat → Bool) : Nat → Array Bool → Act → World → Prop
  | 0, listed, a, w => Region.ready md ops listed = [] ∧ Q .normal a w
  | fuel + 1, listed, a, w => (Region.ready md ops listed = [] → Q .normal a w) ∧
    ∀ i ∈ Region.ready md ops listed, wpOp P ops Q i (fun a' w' => (late i = false → S w') ∧ wpLate P md ops Q S late fuel (listed.setIfInBounds i true) a' w') a w
/-- Operation j waits for operation k. -/
def waits (md : Region.Mode) (ops : Array Oper) (j k : Nat) : Bool := ((ops[j]?).map (·.after.toList.any fun e => Region.binds md e && e.on == k)).getD false

section
variable {P : Program} {ops : Array Oper} {Q : Exit → Act → World → Prop} {md : Region.Mode} {S : World → Prop} {late : Nat → Bool}

theorem wpAny_of_late : ∀ (fuel : Nat) (listed : Array Bool) (a : Act) (w : World), wpLate P md ops Q S late fuel listed a w → wpAny P md ops Q fuel listed a w
  | 0, _, _, _, h => h
  | fuel + 1, _, _, _, h => ⟨h.1, fun i hi => wpOp_mono (fun a' w' h' => wpAny_of_late fuel _ a' w' h'.2) (h.2 i hi)⟩
theorem not_ready {j k : Nat} {listed : Array Bool} (h : waits md ops j k = true) (hk : listed.getD k true = false) : j ∉ Region.ready md ops listed := by
  intro hj
  obtain ⟨_, o, ho, hall⟩ := mem_ready.1 hj
  unfold waits at h
  rw [ho, Option.map_some, Option.getD_some, List.any_eq_true] at h
  obtain ⟨e, he, hb⟩ := h
  rw [Bool.and_eq_true, beq_iff_eq] at hb
  have h1 := hall e (by simpa using he) hb.1
  rw [hb.2] at h1
  rcases Nat.lt_or_ge k listed.size with h' | h'
  · simp [h'] at h1 hk
    rw [h1] at hk
    cases hk
  · simp [Array.getElem?_eq_none h'] at h1
theorem wpLate_first {i k : Nat} {oi : Oper} {v : Value} (hi : ops[i]? = some oi) (hsel : ∀ (j : Nat) (o : Oper) cs b, ops[j]? = some o → o.op ≠ .select cs b)
    (hQ : ∀ c a w, Q (.panic c) (a.put oi.dst v) w → Q (.panic c) a w) (hk : waits md ops k i = true) (hl : ∀ j, j < ops.size → late j = true → waits md ops j k = true) :
    ∀ (fuel : Nat) (listed : Array Bool) (a : Act) (w : World),
      (∀ j oj, ops[j]? = some oj → j ≠ i → listed.getD j true = false → (∀ e ∈ oj.after, Region.binds md e = true → e.on ≠ i) → oi.apart ops oj = true) →
      listed.getD k true = false → i ∈ Region.ready md ops listed → YieldsIf P ops S oi v a → S w →
      wpLate P md ops Q S late fuel (listed.setIfInBounds i true) (a.put oi.dst v) w → wpLate P md ops Q S late (fuel + 1) listed a w := by
  intro fuel
  induction fuel with
  | zero =>
    intro listed a w _ _ hr hy hS H
    refine ⟨fun h => (by rw [h] at hr; cases hr), fun j hj => ?_⟩
    by_cases hji : j = i
    · subst hji
      exact hy.wpOp hi hS ⟨fun _ => hS, H⟩
    · have := ready_mono hj hji
      rw [H.1] at this
      cases this
  | succ fuel ih =>
    intro listed a w hfree hkl hr hy hS H
    refine ⟨fun h => (by rw [h] at hr; cases hr), fun j hj => ?_⟩
    by_cases hji : j = i
    · subst hji
      exact hy.wpOp hi hS ⟨fun _ => hS, H⟩
    · obtain ⟨hjun, oj, hoj, hall⟩ := mem_ready.1 hj
      have hlj : late j = false := by
        cases e : late j with
        | false => rfl
        | true => exact absurd hj (not_ready (hl j (Array.getElem?_eq_some_iff.1 hoj).1 e) hkl)
      have hjk : j ≠ k := by
        rintro rfl
        exact not_ready hk (mem_ready.1 hr).1 hj
      have hnot : ∀ e ∈ oj.after, Region.binds md e = true → e.on ≠ i := by
        intro e he hb heq
        have h1 := hall e he hb
        have h0 := (mem_ready.1 hr).1
        rw [heq] at h1
        rcases Nat.lt_or_ge i listed.size with h' | h'
        · simp [h'] at h0 h1
          rw [h0] at h1
          cases h1
        · simp [Array.getElem?_eq_none h'] at h1
      have h2 := wpOp_putIf hoj (hfree j oj hoj hji hjun hnot) (fun cs b => hsel i oi cs b hi) (fun cs b => hsel j oj cs b hoj) hQ hy (H.2 j (ready_mono hj hji))
      have hfree' : ∀ m om, ops[m]? = some om → m ≠ i → (listed.setIfInBounds j true).getD m true = false → (∀ e ∈ om.after, Region.binds md e = true → e.on ≠ i) → oi.apart ops om = true := by
        intro m om hm hmi hun hno
        refine hfree m om hm hmi ?_ hno
        by_cases hjm : j = m
        · subst hjm
          exact hjun
        · rw [getD_set_ne true hjm] at hun
          exact hun
      refine wpOp_mono (fun a' w' h3 => ⟨h3.2.1, ih (listed.setIfInBounds j true) a' w' hfree' (by rw [getD_set_ne true hjk]; exact hkl) (ready_mono hr (Ne.symm hji)) h3.1 (h3.2.1 hlj) ?_⟩) h2
      rw [Array.setIfInBounds_comm _ _ hji]
      exact h3.2.2
/-- Operation i, which yields v in every world that meets S, comes up first: all that is late waits for k, which waits for i. -/
theorem wpLate_take (i k : Nat) {oi : Oper} {v : Value} {fuel : Nat} {listed : Array Bool} {a : Act} {w : World} (hi : ops[i]? = some oi)
    (hs : Region.noSelect ops = true) (hf : Region.free md ops listed i = true) (hr : (Region.ready md ops listed).contains i = true)
    (hk : waits md ops k i = true) (hl : ((List.range ops.size).all fun j => !late j || waits md ops j k) = true) (hkl : listed.getD k true = false)
    (hQ : ∀ c a w, Q (.panic c) (a.put oi.dst v) w → Q (.panic c) a w) (hy : YieldsIf P ops S oi v a) (hS : S w)
    (h : wpLate P md ops Q S late fuel (listed.setIfInBounds i true) (a.put oi.dst v) w) : wpLate P md ops Q S late (fuel + 1) listed a w := by
  refine wpLate_first hi (Region.noSelect_spec hs) hQ hk (fun j hj hlj => ?_) fuel listed a w (Region.free_spec hi hf) hkl (by simpa using hr) hy hS h
  have := (List.all_eq_true.1 hl) j (List.mem_range.2 hj)
  rw [hlj] at this
  simpa using this
/-- One operation alone may come up. -/
theorem wpLate_one (i : Nat) {o : Oper} {fuel : Nat} {listed : Array Bool} {a : Act} {w : World} (hr : Region.ready md ops listed = [i]) (ho : ops[i]? = some o)
    (hw : Region.wanted o (yielded ops a.tmps) = true)
    (h : ∀ K : Act → World → Prop, Hid (∀ a' w', (late i = false → S w') → wpLate P md ops Q S late fuel (listed.setIfInBounds i true) a' w' → K a' w') → Oper.wp P o a w K Q) :
    wpLate P md ops Q S late (fuel + 1) listed a w := by
  refine ⟨fun h0 => (by rw [hr] at h0; cases h0), fun j hj => ?_⟩
  rw [hr, List.mem_singleton] at hj
  subst hj
  unfold wpOp
  simp only [ho, hw, if_true]
  exact .inl (h _ (Lib.hid fun a' w' h1 h2 => ⟨h1, h2⟩))
theorem wpLate_done {listed : Array Bool} {a : Act} {w : World} (hr : Region.ready md ops listed = []) (h : Q .normal a w) : ∀ fuel, wpLate P md ops Q S late fuel listed a w
  | 0 => ⟨hr, h⟩
  | _ + 1 => ⟨fun _ => h, by rw [hr]; simp⟩
theorem wp_region_late {id : Nat} {a : Act} {w : World} (S : World → Prop) (late : Nat → Bool) (hm : P.follows .mixedOrders = true)
    (h : wpLate P .any ops Q S late ops.size (Array.replicate ops.size false) a w.drew) : (Code.region id ops true).wp P Q a w :=
  wp_region_any hm (wpAny_of_late _ _ _ _ h)
end
end Go.Proofs.YthkkdepppjiaeaaGreatDoor

/- slices.Clone at slices of vectors (walked out of its own body, as the kit's contract for any type). -/
namespace Go.Proofs.YthkkdepppjiaeaaGreatDoor
open Go.RowKit Go.Shelf Go.Sort

noncomputable def vecI : TypeInfo := (Tryz.prog.info? 24).get (by kernel_rfl)
def vecZ : Value := .agg #[.string ⟨#[]⟩, .string ⟨#[]⟩, .string ⟨#[]⟩]

end Go.Proofs.YthkkdepppjiaeaaGreatDoor

/- The reference of layer 11: Range. -/
namespace Go.Proofs.YthkkdepppjiaeaaGreatDoor
open Go.RowKit Go.Shelf Go.Sort

attribute [local go_sem] Oper.semAt_some

theorem RQ.st3 {w : World} {p d : Sl} {x : Rat} {g : Nat} {b1 b0 : Bool} {v1 v2 u1 u2 : Value} {t : TypeId} (h : RQ w p d x) (hr : w.heap[g]? = some (.cells #[.bool b1, v1, v2] t (0, 0))) : RQ (((w.setCell ⟨g, 0, none⟩ (.bool b0)).setCell ⟨g, 1, none⟩ u1).setCell ⟨g, 2, none⟩ u2) p d x := by
  have hb : RB w g := ⟨b1, cell_of_row w _ 0 _ _ _ hr⟩
  exact RQ.set (RQ.set (RQ.set h hb 0 (.bool b0)) (hb.set0 b0) 1 u1) (RB.setI (hb.set0 b0) 1 u1 (by decide)) 2 u2
theorem RV.st3 {w : World} {s : VS} {a : V3} {g : Nat} {b1 b0 : Bool} {v1 v2 u1 u2 : Value} {t : TypeId} (h : RV w s a) (hr : w.heap[g]? = some (.cells #[.bool b1, v1, v2] t (0, 0))) : RV (((w.setCell ⟨g, 0, none⟩ (.bool b0)).setCell ⟨g, 1, none⟩ u1).setCell ⟨g, 2, none⟩ u2) s a := ⟨h.x.st3 hr, h.y.st3 hr, h.z.st3 hr⟩
theorem RQ.drewR {w : World} {p d : Sl} {x : Rat} (h : RQ w p d x) : RQ w.drew p d x := ⟨h.num, h.den⟩


end Go.Proofs.YthkkdepppjiaeaaGreatDoor
