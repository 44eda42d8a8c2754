/- A PART OF THE PROOF, JOINED OUT OF 2 TEXTS. -/
import Derived.Test.YthkkdepppjiaeaaGreatDoorQkRef
/- Walks of the program's package vector at texts that are no numbers: apply, Scale, Dot, Det; and all of them at whatever texts. -/
namespace Go.Proofs.YthkkdepppjiaeaaGreatDoor
open Go.RowKit Go.Shelf Go.Sort

attribute [local go_sem] Oper.semAt_some

/-- The vector with three texts. -/
noncomputable def vvX (s : ByteArray × ByteArray × ByteArray) : V3 := ⟨rvX s.1, rvX s.2.1, rvX s.2.2⟩
/-- Texts that are short enough. -/
def Sh6 (s : ByteArray × ByteArray × ByteArray) : Prop := s.1.size ≤ 1000000 ∧ s.2.1.size ≤ 1000000 ∧ s.2.2.size ≤ 1000000
@[reducible] def txW (s : ByteArray × ByteArray × ByteArray) : Value := .agg #[.string s.1, .string s.2.1, .string s.2.2]
@[reducible] def e3W : Value := .agg #[.string ⟨#[]⟩, .string ⟨#[]⟩, .string ⟨#[]⟩]

end Go.Proofs.YthkkdepppjiaeaaGreatDoor

/- The program's package vector at whatever short texts: Add, Sub, Cross, Scale, Dot, Det. -/
namespace Go.Proofs.YthkkdepppjiaeaaGreatDoor
open Go.RowKit Go.Shelf Go.Sort

attribute [local go_sem] Oper.semAt_some

theorem vv_text {s : ByteArray × ByteArray × ByteArray} (h : vvB s = true) : s = (rs (vvX s).x, rs (vvX s).y, rs (vvX s).z) := by
  obtain ⟨a, b, c⟩ := s
  unfold vvB at h
  simp only [Bool.and_eq_true] at h
  obtain ⟨x, hx⟩ := (rvB_iff a).1 h.1.1
  obtain ⟨y, hy⟩ := (rvB_iff b).1 h.1.2
  obtain ⟨z, hz⟩ := (rvB_iff c).1 h.2
  subst hx hy hz
  unfold vvX
  simp only [rvX_rs]
/-- What is handed back: the vector, or none. -/
def vres (ok : Bool) (z : V3) : Value := if ok = true then vV z else e3W
end Go.Proofs.YthkkdepppjiaeaaGreatDoor
