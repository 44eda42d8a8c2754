/- A PART OF THE PROOF, JOINED OUT OF 6 TEXTS. -/
import Derived.Test.YthkkdepppjiaeaaGreatDoorPmVector
/- Walks of the laws' helpers: vec, Few, few; Through and Crossing at numbers. -/
namespace Go.Proofs.YthkkdepppjiaeaaGreatDoor
open Go.RowKit Go.Shelf Go.Sort

attribute [local go_sem] Oper.semAt_some vec_guard vec_eq

end Go.Proofs.YthkkdepppjiaeaaGreatDoor

/- Walks of the laws' helpers: few. -/
namespace Go.Proofs.YthkkdepppjiaeaaGreatDoor
open Go.RowKit Go.Shelf Go.Sort

attribute [local go_sem] Oper.semAt_some vec_guard vec_eq

end Go.Proofs.YthkkdepppjiaeaaGreatDoor

/- The texts of the small numbers, and what the examples of the chapter give. -/
namespace Go.Proofs.YthkkdepppjiaeaaGreatDoor
open Go.RowKit Go.Shelf Go.Sort

theorem iS_p1 {k : Nat} {c : UInt8} (h : k < 10) (hc : c = UInt8.ofNat (48 + k)) : iS (k : Int) = ⟨#[c]⟩ := by
  rw [iS_nat]; unfold nS
  rw [Lib.decDigits, dif_pos h, hc]
theorem rs_lit {x : Rat} {z : Int} (h1 : x.den = 1) (h2 : x.num = z) : rs x = iS z := by rw [rs_one h1, h2]

theorem k1 : rs 1 = ⟨#[49]⟩ := (rs_lit (z := ((1 : Nat) : Int)) rfl rfl).trans (iS_p1 (by decide) rfl)
theorem k2 : rs 2 = ⟨#[50]⟩ := (rs_lit (z := ((2 : Nat) : Int)) rfl rfl).trans (iS_p1 (by decide) rfl)
theorem k3 : rs 3 = ⟨#[51]⟩ := (rs_lit (z := ((3 : Nat) : Int)) rfl rfl).trans (iS_p1 (by decide) rfl)
theorem k4 : rs 4 = ⟨#[52]⟩ := (rs_lit (z := ((4 : Nat) : Int)) rfl rfl).trans (iS_p1 (by decide) rfl)
theorem k5 : rs 5 = ⟨#[53]⟩ := (rs_lit (z := ((5 : Nat) : Int)) rfl rfl).trans (iS_p1 (by decide) rfl)
theorem k6 : rs 6 = ⟨#[54]⟩ := (rs_lit (z := ((6 : Nat) : Int)) rfl rfl).trans (iS_p1 (by decide) rfl)
theorem k7 : rs 7 = ⟨#[55]⟩ := (rs_lit (z := ((7 : Nat) : Int)) rfl rfl).trans (iS_p1 (by decide) rfl)
theorem k9 : rs 9 = ⟨#[57]⟩ := (rs_lit (z := ((9 : Nat) : Int)) rfl rfl).trans (iS_p1 (by decide) rfl)
abbrev e1 : V3 := ⟨1, 0, 0⟩
abbrev e2 : V3 := ⟨0, 1, 0⟩
abbrev e3 : V3 := ⟨0, 0, 1⟩
abbrev v123 : V3 := ⟨1, 2, 3⟩
abbrev v456 : V3 := ⟨4, 5, 6⟩
def S2 (i : Nat) : V3 := if i = 0 then v123 else v456
end Go.Proofs.YthkkdepppjiaeaaGreatDoor

/- Equality of planes and intervals. -/
namespace Go.Proofs.YthkkdepppjiaeaaGreatDoor
open Go.RowKit Go.Shelf Go.Sort

attribute [local go_sem] Oper.semAt_some

end Go.Proofs.YthkkdepppjiaeaaGreatDoor

/- Walk of the laws' helper awake: the examples of the chapter hold. -/
namespace Go.Proofs.YthkkdepppjiaeaaGreatDoor
open Go.RowKit Go.Shelf Go.Sort

attribute [local go_sem] Oper.semAt_some vec_guard vec_eq

end Go.Proofs.YthkkdepppjiaeaaGreatDoor

/- Short texts: what 'few' answers, numbers out of texts (general; no law is named). -/
namespace Go.Proofs.YthkkdepppjiaeaaGreatDoor
open Go.RowKit Go.Shelf Go.Sort

theorem rs_nl (x : Rat) : nl x.num.natAbs ≤ (rs x).size ∧ nl x.den ≤ (rs x).size + 1 := by
  have s1 := iS_nl x.num
  have s2 := nS_size x.den
  by_cases h : x.den = 1
  · rw [rs_one h]; refine ⟨s1, ?_⟩
    rw [h, show nl 1 = 1 by unfold nl; rw [Lib.decDigits]; rfl]; omega
  · rw [rs_frac h, ByteArray.size_append, ByteArray.size_append]; omega
/-- The sizes of three texts that a machine can hold. -/
def Mx (s : ByteArray × ByteArray × ByteArray) : Prop := s.1.size ≤ 9223372036854775807 ∧ s.2.1.size ≤ 9223372036854775807 ∧ s.2.2.size ≤ 9223372036854775807
end Go.Proofs.YthkkdepppjiaeaaGreatDoor
