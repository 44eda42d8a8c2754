/- The law AttitudeWithin: the walks up to Extent, and its errors. -/
import Derived.Test.YthkkdepppjiaeaaGreatDoorRgExtent
import Derived.Test.YthkkdepppjiaeaaGreatDoorQwAttitude
namespace Go.Proofs.YthkkdepppjiaeaaGreatDoor
open Go.RowKit Go.Shelf Go.Sort

attribute [local go_sem] Oper.semAt_some

theorem end6 {V Y : World} {r : Nat} {x0 x1 x2 x3 x4 x5 : Value} {t : TypeId} (hv : Below V.heap.size V Y) (hr : Y.heap[r]? = some (.cells #[x0, x1, x2, x3, x4, x5] t (0, 0))) (hle : V.heap.size ≤ r) (a b c d e f : Value) :
    ((((((Y.setCell ⟨r, 0, none⟩ a).setCell ⟨r, 1, none⟩ b).setCell ⟨r, 2, none⟩ c).setCell ⟨r, 3, none⟩ d).setCell ⟨r, 4, none⟩ e).setCell ⟨r, 5, none⟩ f).heap[r]? = some (.cells #[a, b, c, d, e, f] t (0, 0)) ∧ Below V.heap.size V ((((((Y.setCell ⟨r, 0, none⟩ a).setCell ⟨r, 1, none⟩ b).setCell ⟨r, 2, none⟩ c).setCell ⟨r, 3, none⟩ d).setCell ⟨r, 4, none⟩ e).setCell ⟨r, 5, none⟩ f) :=
  ⟨store6 hr _ _ _ _ _ _, store6_below hv hle _ _ _ _ _ _⟩
theorem spot_guard : Tryz.prog.eqGuardType Tryz.prog.depth 74 = false := by kernel_rfl
theorem spot_eq0 (w : World) : (Op.equalIn 10000 74 (.agg #[.string ⟨#[]⟩, .string ⟨#[]⟩, .string ⟨#[]⟩, .string ⟨#[]⟩, .string ⟨#[]⟩, .string ⟨#[]⟩]) (.agg #[.string ⟨#[]⟩, .string ⟨#[]⟩, .string ⟨#[]⟩, .string ⟨#[]⟩, .string ⟨#[]⟩, .string ⟨#[]⟩])).run Tryz.prog w = .ok true w := by kernel_rfl
attribute [local go_sem] spot_guard spot_eq0


end Go.Proofs.YthkkdepppjiaeaaGreatDoor
