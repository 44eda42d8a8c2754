/- A PART OF THE PROOF, JOINED OUT OF 3 TEXTS. -/
import Derived.Test.YthkkdepppjiaeaaGreatDoorQyReturns
import Derived.Test.YthkkdepppjiaeaaGreatDoorPmVector
import Derived.Test.YthkkdepppjiaeaaGreatDoorRbRef
/- The program's package attitude: Water; Back at whatever texts. -/
namespace Go.Proofs.YthkkdepppjiaeaaGreatDoor
open Go.RowKit Go.Shelf Go.Sort

attribute [local go_sem] Oper.semAt_some


end Go.Proofs.YthkkdepppjiaeaaGreatDoor

/- The program's package attitude: Back and Water at whatever texts of up to 40 bytes. -/
namespace Go.Proofs.YthkkdepppjiaeaaGreatDoor
open Go.RowKit Go.Shelf Go.Sort

end Go.Proofs.YthkkdepppjiaeaaGreatDoor

/- The reference of layer 16 at whatever texts. -/
namespace Go.Proofs.YthkkdepppjiaeaaGreatDoor
open Go.RowKit Go.Shelf Go.Sort

theorem r16_FrameOf_err (a b : ByteArray) (w : World) (ha : a.size ≤ 100) (hb : b.size ≤ 100) (hk : ((rvB a && rvB b) && inR (rvX a) (rvX b)) = false) :
    Calls Tryz.prog 77 #[.agg #[.string a, .string b]] w fun e w' => e = .returned (.tuple #[.agg #[.bool false, .slice none 0 0, .slice none 0 0, .bool false, .slice none 0 0, .slice none 0 0, .bool false, .slice none 0 0, .slice none 0 0, .bool false, .slice none 0 0, .slice none 0 0, .bool false, .slice none 0 0, .slice none 0 0, .bool false, .slice none 0 0, .slice none 0 0, .bool false, .slice none 0 0, .slice none 0 0, .bool false, .slice none 0 0, .slice none 0 0, .bool false, .slice none 0 0, .slice none 0 0], .int .i64 (acode (rvB a && rvB b) (inR (rvX a) (rvX b)))]) ∧ Below w.heap.size w w' := by
  cases hv : (rvB a && rvB b) with
  | false => exact r16_FrameOf_bad a b w ha hb hv
  | true =>
    rw [hv, Bool.true_and] at hk
    have ho := inR_out (rvX a) (rvX b)
    rw [hk] at ho
    rw [hk]
    exact r16_FrameOf_out a b w ha hb hv ho
theorem r16_FrameOf_yes (a b : ByteArray) (w : World) (ha : a.size ≤ 100) (hb : b.size ≤ 100) (hk : ((rvB a && rvB b) && inR (rvX a) (rvX b)) = true) :
    Calls Tryz.prog 77 #[.agg #[.string a, .string b]] w fun e w' => ∃ fA fS fU : VS, e = .returned (.tuple #[.agg #[.bool (sgB (axA (rvX a) (rvX b)).x.num), .slice fA.x.p.A fA.x.p.n fA.x.p.c, .slice fA.x.d.A fA.x.d.n fA.x.d.c, .bool (sgB (axA (rvX a) (rvX b)).y.num), .slice fA.y.p.A fA.y.p.n fA.y.p.c, .slice fA.y.d.A fA.y.d.n fA.y.d.c, .bool (sgB (axA (rvX a) (rvX b)).z.num), .slice fA.z.p.A fA.z.p.n fA.z.p.c, .slice fA.z.d.A fA.z.d.n fA.z.d.c, .bool (sgB (axS (rvX a)).x.num), .slice fS.x.p.A fS.x.p.n fS.x.p.c, .slice fS.x.d.A fS.x.d.n fS.x.d.c, .bool (sgB (axS (rvX a)).y.num), .slice fS.y.p.A fS.y.p.n fS.y.p.c, .slice fS.y.d.A fS.y.d.n fS.y.d.c, .bool (sgB (axS (rvX a)).z.num), .slice fS.z.p.A fS.z.p.n fS.z.p.c, .slice fS.z.d.A fS.z.d.n fS.z.d.c, .bool (sgB (axU (rvX a) (rvX b)).x.num), .slice fU.x.p.A fU.x.p.n fU.x.p.c, .slice fU.x.d.A fU.x.d.n fU.x.d.c, .bool (sgB (axU (rvX a) (rvX b)).y.num), .slice fU.y.p.A fU.y.p.n fU.y.p.c, .slice fU.y.d.A fU.y.d.n fU.y.d.c, .bool (sgB (axU (rvX a) (rvX b)).z.num), .slice fU.z.p.A fU.z.p.n fU.z.p.c, .slice fU.z.d.A fU.z.d.n fU.z.d.c], .int .i64 0]) ∧ RV w' fA (axA (rvX a) (rvX b)) ∧ RV w' fS (axS (rvX a)) ∧ RV w' fU (axU (rvX a) (rvX b)) ∧ Below w.heap.size w w' := by
  rw [Bool.and_eq_true] at hk
  have ho := inR_out (rvX a) (rvX b)
  rw [hk.2] at ho
  exact r16_FrameOf_ok a b w ha hb hk.1 ho
theorem acode_yes {v r : Bool} (h : (v && r) = true) : acode v r = 0 := by
  rw [Bool.and_eq_true] at h
  rw [h.1, h.2]
  rfl

end Go.Proofs.YthkkdepppjiaeaaGreatDoor
