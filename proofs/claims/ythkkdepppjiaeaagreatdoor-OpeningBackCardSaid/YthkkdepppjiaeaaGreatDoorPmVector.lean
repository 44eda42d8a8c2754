/- A PART OF THE PROOF, JOINED OUT OF 3 TEXTS. -/
import Derived.Test.YthkkdepppjiaeaaGreatDoorPlVector
/- Walks of the program's package vector: Through, at valid points. -/
namespace Go.Proofs.YthkkdepppjiaeaaGreatDoor
open Go.RowKit Go.Shelf Go.Sort

attribute [local go_sem] Oper.semAt_some vec_guard vec_eq

theorem old1 {W : World} {g : Nat} {o o' : Obj} (h : W.heap[g]? = some o) : (W.alloc o').heap[g]? = some o := by
  rw [Below.heap_alloc W o' g (lt_of_row h)]; exact h
theorem oldD {W : World} {g : Nat} {o : Obj} (h : W.heap[g]? = some o) : W.drew.heap[g]? = some o := h
theorem old1D {W : World} {g : Nat} {o o' : Obj} (h : W.heap[g]? = some o) : ((W.alloc o').drew).heap[g]? = some o := old1 h
theorem newD (w : World) (o : Obj) : ((w.alloc o).drew).heap[w.heap.size]? = some o := heap_alloc_new w o
section
variable {w : World} {G : Nat} {a0 a1 a2 b0 b1 b2 c0 c1 c2 : Value}
end

section
variable {w : World} {P G : Nat} {n0 n1 n2 a0 a1 a2 : Value}
end


end Go.Proofs.YthkkdepppjiaeaaGreatDoor

/- Walks of the program's package vector: Crossing, at a valid plane and valid points on two sides of it. -/
namespace Go.Proofs.YthkkdepppjiaeaaGreatDoor
open Go.RowKit Go.Shelf Go.Sort

attribute [local go_sem] Oper.semAt_some vec_guard vec_eq

section
variable {w : World} {G : Nat} {a0 a1 a2 b0 b1 b2 : Value}
end


end Go.Proofs.YthkkdepppjiaeaaGreatDoor

/- Walks of the program's package vector: Range, at valid points. -/
namespace Go.Proofs.YthkkdepppjiaeaaGreatDoor
open Go.RowKit Go.Shelf Go.Sort

attribute [local go_sem] Oper.semAt_some vec_guard vec_eq

theorem ivl_row : RowTy Tryz.prog 30 2 := rowTy_struct Tryz.underlying30 (by kernel_rfl)
/-- The texts of vectors. -/
def txV (S : Nat → V3) (i : Nat) : ByteArray × ByteArray × ByteArray := (rs (S i).x, rs (S i).y, rs (S i).z)
/-- The least and the greatest product so far. -/
def rng (S : Nat → V3) (a : V3) : Nat → Rat × Rat
  | 0 => (dotV (S 0) a, dotV (S 0) a)
  | k + 1 => (if cmpQ (dotV (S (k + 1)) a - (rng S a k).1) 0 < 0 then dotV (S (k + 1)) a else (rng S a k).1, if 0 < cmpQ (dotV (S (k + 1)) a - (rng S a k).2) 0 then dotV (S (k + 1)) a else (rng S a k).2)
theorem sz_rng {K n : Nat} {S : Nat → V3} {a : V3} (hS : ∀ i, i < n → SzV K (S i)) (ha : SzV K a) : ∀ k, k < n → Sz (20 * K) (rng S a k).1 ∧ Sz (20 * K) (rng S a k).2
  | 0, h => ⟨sz_dot (hS 0 h) ha, sz_dot (hS 0 h) ha⟩
  | k + 1, h => by
    obtain ⟨h1, h2⟩ := sz_rng hS ha k (by omega)
    have hd := sz_dot (hS (k + 1) h) ha
    unfold rng
    constructor
    · show Sz _ (if _ then _ else _); split
      · exact hd
      · exact h1
    · show Sz _ (if _ then _ else _); split
      · exact hd
      · exact h2

theorem set2_0 {w : World} {g : Nat} {a b x : Value} {t : TypeId} (h : w.heap[g]? = some (.cells #[a, b] t (0, 0))) : (w.setCell ⟨g, 0, none⟩ x).heap[g]? = some (.cells #[x, b] t (0, 0)) := by
  rw [heap_setCell_same w g 0 _ _ x h]; rfl
theorem set2_1 {w : World} {g : Nat} {a b x : Value} {t : TypeId} (h : w.heap[g]? = some (.cells #[a, b] t (0, 0))) : (w.setCell ⟨g, 1, none⟩ x).heap[g]? = some (.cells #[a, x] t (0, 0)) := by
  rw [heap_setCell_same w g 1 _ _ x h]; rfl

end Go.Proofs.YthkkdepppjiaeaaGreatDoor
