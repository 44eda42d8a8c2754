/- A PART OF THE PROOF, JOINED OUT OF 3 TEXTS. -/
import Derived.Test.YtgbabmkclojgeaaGreatDoorPlVector
/- Walks of the program's package vector: Through, at valid points. -/
namespace Go.Proofs.YtgbabmkclojgeaaGreatDoor
open Go.RowKit Go.Shelf Go.Sort

attribute [local go_sem] Oper.semAt_some vec_guard vec_eq

theorem old1 {W : World} {g : Nat} {o o' : Obj} (h : W.heap[g]? = some o) : (W.alloc o').heap[g]? = some o := by
  rw [Below.heap_alloc W o' g (lt_of_row h)]; exact h
theorem oldD {W : World} {g : Nat} {o : Obj} (h : W.heap[g]? = some o) : W.drew.heap[g]? = some o := h
theorem old1D {W : World} {g : Nat} {o o' : Obj} (h : W.heap[g]? = some o) : ((W.alloc o').drew).heap[g]? = some o := old1 h
theorem newD (w : World) (o : Obj) : ((w.alloc o).drew).heap[w.heap.size]? = some o := heap_alloc_new w o
theorem plane_row : RowTy Tryz.prog 48 4 := rowTy_struct Tryz.underlying48 (by kernel_rfl)
theorem store4 {w : World} {g : Nat} {a b c d : Value} {t : TypeId} (hg : w.heap[g]? = some (.cells #[a, b, c, d] t (0, 0))) (x y z u : Value) :
    ((((w.setCell ⟨g, 0, none⟩ x).setCell ⟨g, 1, none⟩ y).setCell ⟨g, 2, none⟩ z).setCell ⟨g, 3, none⟩ u).heap[g]? = some (.cells #[x, y, z, u] t (0, 0)) := by
  rw [heap_setCell_same _ g 3 _ _ u (heap_setCell_same _ g 2 _ _ z (heap_setCell_same _ g 1 _ _ y (heap_setCell_same w g 0 _ _ x hg)))]
  rfl
theorem store4_below {w0 w : World} {B g : Nat} (h : Below B w0 w) (hB : B ≤ g) (x y z u : Value) : Below B w0 ((((w.setCell ⟨g, 0, none⟩ x).setCell ⟨g, 1, none⟩ y).setCell ⟨g, 2, none⟩ z).setCell ⟨g, 3, none⟩ u) :=
  (store3_below h hB x y z).setCell (p := ⟨g, 3, none⟩) hB _
theorem store4_other {V : World} {g k : Nat} {o : Obj} (hne : k ≠ g) (h : V.heap[k]? = some o) (x y z u : Value) : ((((V.setCell ⟨g, 0, none⟩ x).setCell ⟨g, 1, none⟩ y).setCell ⟨g, 2, none⟩ z).setCell ⟨g, 3, none⟩ u).heap[k]? = some o := by
  rw [heap_setCell_other _ ⟨g, 3, none⟩ _ u hne]; exact store3_other hne h x y z

section
variable {w : World} {G : Nat} {a0 a1 a2 b0 b1 b2 c0 c1 c2 : Value}
theorem k9D (h : (w).cell? ⟨G, 0, none⟩ = some a0 ∧ (w).cell? ⟨G, 1, none⟩ = some a1 ∧ (w).cell? ⟨G, 2, none⟩ = some a2 ∧ (w).cell? ⟨G + 1, 0, none⟩ = some b0 ∧ (w).cell? ⟨G + 1, 1, none⟩ = some b1 ∧ (w).cell? ⟨G + 1, 2, none⟩ = some b2 ∧ (w).cell? ⟨G + 2, 0, none⟩ = some c0 ∧ (w).cell? ⟨G + 2, 1, none⟩ = some c1 ∧ (w).cell? ⟨G + 2, 2, none⟩ = some c2) : (w.drew).cell? ⟨G, 0, none⟩ = some a0 ∧ (w.drew).cell? ⟨G, 1, none⟩ = some a1 ∧ (w.drew).cell? ⟨G, 2, none⟩ = some a2 ∧ (w.drew).cell? ⟨G + 1, 0, none⟩ = some b0 ∧ (w.drew).cell? ⟨G + 1, 1, none⟩ = some b1 ∧ (w.drew).cell? ⟨G + 1, 2, none⟩ = some b2 ∧ (w.drew).cell? ⟨G + 2, 0, none⟩ = some c0 ∧ (w.drew).cell? ⟨G + 2, 1, none⟩ = some c1 ∧ (w.drew).cell? ⟨G + 2, 2, none⟩ = some c2 := h
theorem k9A {o : Obj} (h : (w).cell? ⟨G, 0, none⟩ = some a0 ∧ (w).cell? ⟨G, 1, none⟩ = some a1 ∧ (w).cell? ⟨G, 2, none⟩ = some a2 ∧ (w).cell? ⟨G + 1, 0, none⟩ = some b0 ∧ (w).cell? ⟨G + 1, 1, none⟩ = some b1 ∧ (w).cell? ⟨G + 1, 2, none⟩ = some b2 ∧ (w).cell? ⟨G + 2, 0, none⟩ = some c0 ∧ (w).cell? ⟨G + 2, 1, none⟩ = some c1 ∧ (w).cell? ⟨G + 2, 2, none⟩ = some c2) : ((w.alloc o).drew).cell? ⟨G, 0, none⟩ = some a0 ∧ ((w.alloc o).drew).cell? ⟨G, 1, none⟩ = some a1 ∧ ((w.alloc o).drew).cell? ⟨G, 2, none⟩ = some a2 ∧ ((w.alloc o).drew).cell? ⟨G + 1, 0, none⟩ = some b0 ∧ ((w.alloc o).drew).cell? ⟨G + 1, 1, none⟩ = some b1 ∧ ((w.alloc o).drew).cell? ⟨G + 1, 2, none⟩ = some b2 ∧ ((w.alloc o).drew).cell? ⟨G + 2, 0, none⟩ = some c0 ∧ ((w.alloc o).drew).cell? ⟨G + 2, 1, none⟩ = some c1 ∧ ((w.alloc o).drew).cell? ⟨G + 2, 2, none⟩ = some c2 := by
  obtain ⟨h0, h1, h2, h3, h4, h5, h6, h7, h8⟩ := h
  exact ⟨cellA (w := w.drew) h0, cellA (w := w.drew) h1, cellA (w := w.drew) h2, cellA (w := w.drew) h3, cellA (w := w.drew) h4, cellA (w := w.drew) h5, cellA (w := w.drew) h6, cellA (w := w.drew) h7, cellA (w := w.drew) h8⟩
theorem k9S {q i : Nat} {x : Value} (m0 : q ≠ G) (m1 : q ≠ G + 1) (m2 : q ≠ G + 2) (h : (w).cell? ⟨G, 0, none⟩ = some a0 ∧ (w).cell? ⟨G, 1, none⟩ = some a1 ∧ (w).cell? ⟨G, 2, none⟩ = some a2 ∧ (w).cell? ⟨G + 1, 0, none⟩ = some b0 ∧ (w).cell? ⟨G + 1, 1, none⟩ = some b1 ∧ (w).cell? ⟨G + 1, 2, none⟩ = some b2 ∧ (w).cell? ⟨G + 2, 0, none⟩ = some c0 ∧ (w).cell? ⟨G + 2, 1, none⟩ = some c1 ∧ (w).cell? ⟨G + 2, 2, none⟩ = some c2) : (w.setCell ⟨q, i, none⟩ x).cell? ⟨G, 0, none⟩ = some a0 ∧ (w.setCell ⟨q, i, none⟩ x).cell? ⟨G, 1, none⟩ = some a1 ∧ (w.setCell ⟨q, i, none⟩ x).cell? ⟨G, 2, none⟩ = some a2 ∧ (w.setCell ⟨q, i, none⟩ x).cell? ⟨G + 1, 0, none⟩ = some b0 ∧ (w.setCell ⟨q, i, none⟩ x).cell? ⟨G + 1, 1, none⟩ = some b1 ∧ (w.setCell ⟨q, i, none⟩ x).cell? ⟨G + 1, 2, none⟩ = some b2 ∧ (w.setCell ⟨q, i, none⟩ x).cell? ⟨G + 2, 0, none⟩ = some c0 ∧ (w.setCell ⟨q, i, none⟩ x).cell? ⟨G + 2, 1, none⟩ = some c1 ∧ (w.setCell ⟨q, i, none⟩ x).cell? ⟨G + 2, 2, none⟩ = some c2 := by
  obtain ⟨h0, h1, h2, h3, h4, h5, h6, h7, h8⟩ := h
  exact ⟨cellS (w := w) m0 h0, cellS (w := w) m0 h1, cellS (w := w) m0 h2, cellS (w := w) m1 h3, cellS (w := w) m1 h4, cellS (w := w) m1 h5, cellS (w := w) m2 h6, cellS (w := w) m2 h7, cellS (w := w) m2 h8⟩
theorem k9L {o : Obj} (h : (w).cell? ⟨G, 0, none⟩ = some a0 ∧ (w).cell? ⟨G, 1, none⟩ = some a1 ∧ (w).cell? ⟨G, 2, none⟩ = some a2 ∧ (w).cell? ⟨G + 1, 0, none⟩ = some b0 ∧ (w).cell? ⟨G + 1, 1, none⟩ = some b1 ∧ (w).cell? ⟨G + 1, 2, none⟩ = some b2 ∧ (w).cell? ⟨G + 2, 0, none⟩ = some c0 ∧ (w).cell? ⟨G + 2, 1, none⟩ = some c1 ∧ (w).cell? ⟨G + 2, 2, none⟩ = some c2) : (w.alloc o).cell? ⟨G, 0, none⟩ = some a0 ∧ (w.alloc o).cell? ⟨G, 1, none⟩ = some a1 ∧ (w.alloc o).cell? ⟨G, 2, none⟩ = some a2 ∧ (w.alloc o).cell? ⟨G + 1, 0, none⟩ = some b0 ∧ (w.alloc o).cell? ⟨G + 1, 1, none⟩ = some b1 ∧ (w.alloc o).cell? ⟨G + 1, 2, none⟩ = some b2 ∧ (w.alloc o).cell? ⟨G + 2, 0, none⟩ = some c0 ∧ (w.alloc o).cell? ⟨G + 2, 1, none⟩ = some c1 ∧ (w.alloc o).cell? ⟨G + 2, 2, none⟩ = some c2 := by
  obtain ⟨h0, h1, h2, h3, h4, h5, h6, h7, h8⟩ := h
  exact ⟨cellA h0, cellA h1, cellA h2, cellA h3, cellA h4, cellA h5, cellA h6, cellA h7, cellA h8⟩
end

section
variable {w : World} {P G : Nat} {n0 n1 n2 a0 a1 a2 : Value}
theorem k6pD (h : (w).cell? ⟨P, 0, none⟩ = some n0 ∧ (w).cell? ⟨P, 1, none⟩ = some n1 ∧ (w).cell? ⟨P, 2, none⟩ = some n2 ∧ (w).cell? ⟨G, 0, none⟩ = some a0 ∧ (w).cell? ⟨G, 1, none⟩ = some a1 ∧ (w).cell? ⟨G, 2, none⟩ = some a2) : (w.drew).cell? ⟨P, 0, none⟩ = some n0 ∧ (w.drew).cell? ⟨P, 1, none⟩ = some n1 ∧ (w.drew).cell? ⟨P, 2, none⟩ = some n2 ∧ (w.drew).cell? ⟨G, 0, none⟩ = some a0 ∧ (w.drew).cell? ⟨G, 1, none⟩ = some a1 ∧ (w.drew).cell? ⟨G, 2, none⟩ = some a2 := h
theorem k6pA {o : Obj} (h : (w).cell? ⟨P, 0, none⟩ = some n0 ∧ (w).cell? ⟨P, 1, none⟩ = some n1 ∧ (w).cell? ⟨P, 2, none⟩ = some n2 ∧ (w).cell? ⟨G, 0, none⟩ = some a0 ∧ (w).cell? ⟨G, 1, none⟩ = some a1 ∧ (w).cell? ⟨G, 2, none⟩ = some a2) : ((w.alloc o).drew).cell? ⟨P, 0, none⟩ = some n0 ∧ ((w.alloc o).drew).cell? ⟨P, 1, none⟩ = some n1 ∧ ((w.alloc o).drew).cell? ⟨P, 2, none⟩ = some n2 ∧ ((w.alloc o).drew).cell? ⟨G, 0, none⟩ = some a0 ∧ ((w.alloc o).drew).cell? ⟨G, 1, none⟩ = some a1 ∧ ((w.alloc o).drew).cell? ⟨G, 2, none⟩ = some a2 := by
  obtain ⟨h0, h1, h2, h3, h4, h5⟩ := h
  exact ⟨cellA (w := w.drew) h0, cellA (w := w.drew) h1, cellA (w := w.drew) h2, cellA (w := w.drew) h3, cellA (w := w.drew) h4, cellA (w := w.drew) h5⟩
theorem k6pS {q i : Nat} {x : Value} (m0 : q ≠ P) (m1 : q ≠ G) (h : (w).cell? ⟨P, 0, none⟩ = some n0 ∧ (w).cell? ⟨P, 1, none⟩ = some n1 ∧ (w).cell? ⟨P, 2, none⟩ = some n2 ∧ (w).cell? ⟨G, 0, none⟩ = some a0 ∧ (w).cell? ⟨G, 1, none⟩ = some a1 ∧ (w).cell? ⟨G, 2, none⟩ = some a2) : (w.setCell ⟨q, i, none⟩ x).cell? ⟨P, 0, none⟩ = some n0 ∧ (w.setCell ⟨q, i, none⟩ x).cell? ⟨P, 1, none⟩ = some n1 ∧ (w.setCell ⟨q, i, none⟩ x).cell? ⟨P, 2, none⟩ = some n2 ∧ (w.setCell ⟨q, i, none⟩ x).cell? ⟨G, 0, none⟩ = some a0 ∧ (w.setCell ⟨q, i, none⟩ x).cell? ⟨G, 1, none⟩ = some a1 ∧ (w.setCell ⟨q, i, none⟩ x).cell? ⟨G, 2, none⟩ = some a2 := by
  obtain ⟨h0, h1, h2, h3, h4, h5⟩ := h
  exact ⟨cellS (w := w) m0 h0, cellS (w := w) m0 h1, cellS (w := w) m0 h2, cellS (w := w) m1 h3, cellS (w := w) m1 h4, cellS (w := w) m1 h5⟩
theorem k6pL {o : Obj} (h : (w).cell? ⟨P, 0, none⟩ = some n0 ∧ (w).cell? ⟨P, 1, none⟩ = some n1 ∧ (w).cell? ⟨P, 2, none⟩ = some n2 ∧ (w).cell? ⟨G, 0, none⟩ = some a0 ∧ (w).cell? ⟨G, 1, none⟩ = some a1 ∧ (w).cell? ⟨G, 2, none⟩ = some a2) : (w.alloc o).cell? ⟨P, 0, none⟩ = some n0 ∧ (w.alloc o).cell? ⟨P, 1, none⟩ = some n1 ∧ (w.alloc o).cell? ⟨P, 2, none⟩ = some n2 ∧ (w.alloc o).cell? ⟨G, 0, none⟩ = some a0 ∧ (w.alloc o).cell? ⟨G, 1, none⟩ = some a1 ∧ (w.alloc o).cell? ⟨G, 2, none⟩ = some a2 := by
  obtain ⟨h0, h1, h2, h3, h4, h5⟩ := h
  exact ⟨cellA h0, cellA h1, cellA h2, cellA h3, cellA h4, cellA h5⟩
end


set_option maxRecDepth 100000 in
set_option maxHeartbeats 8000000 in
theorem ve_Through_aux (a0 a1 a2 b0 b1 b2 c0 c1 c2 u0 u1 u2 v0 v1 v2 n0 n1 n2 d : ByteArray) (w : World) (hE : Env w) (ha : ShV (a0, a1, a2)) (hb : ShV (b0, b1, b2)) (hc : ShV (c0, c1, c2)) (h0 : chk3 (a0, a1, a2) (b0, b1, b2) (c0, c1, c2) = 0)
    (h1 : ∀ w, Env w → Calls Tryz.prog 70 #[fnV 76, .agg #[.string b0, .string b1, .string b2], .agg #[.string a0, .string a1, .string a2]] w fun e w' => e = .returned (.agg #[.string u0, .string u1, .string u2]) ∧ Below w.heap.size w w')
    (h2 : ∀ w, Env w → Calls Tryz.prog 70 #[fnV 76, .agg #[.string c0, .string c1, .string c2], .agg #[.string a0, .string a1, .string a2]] w fun e w' => e = .returned (.agg #[.string v0, .string v1, .string v2]) ∧ Below w.heap.size w w')
    (h3 : ∀ w, Env w → Calls Tryz.prog 85 #[.agg #[.string u0, .string u1, .string u2], .agg #[.string v0, .string v1, .string v2]] w fun e w' => e = .returned (.agg #[.string n0, .string n1, .string n2]) ∧ Below w.heap.size w w')
    (h4 : ∀ w, Env w → Calls Tryz.prog 83 #[.agg #[.string n0, .string n1, .string n2], .agg #[.string a0, .string a1, .string a2]] w fun e w' => e = .returned (.string d) ∧ Below w.heap.size w w')
    (h5 : ∀ w, Env w → Calls Tryz.prog 89 #[.agg #[.string n0, .string n1, .string n2, .string d]] w fun e w' => e = .returned (.int .i64 0) ∧ Below w.heap.size w w') :
    Calls Tryz.prog 36 #[.agg #[.string a0, .string a1, .string a2], .agg #[.string b0, .string b1, .string b2], .agg #[.string c0, .string c1, .string c2]] w fun e w' => e = .returned (.tuple #[.agg #[.string n0, .string n1, .string n2, .string d], .int .i64 0]) ∧ Below w.heap.size w w' := by
  have HC := Lib.hid (fun N t W hE h => ve_check3 (N := N) (t := t) ha hb hc W hE h)
  rw [h0] at HC
  have H1 := Lib.hid h1
  have H2 := Lib.hid h2
  have H3 := Lib.hid h3
  have H4 := Lib.hid h4
  have H5 := Lib.hid h5
  have HE := Lib.hid hE
  clear hE h1 h2 h3 h4 h5 h0 ha hb hc
  go_enter Tryz.func36, Tryz.ntmps36
  go_wp2_with fail
  generalize hW : ((((World.alloc w _).alloc _).alloc _).alloc _).alloc _ = W
  obtain ⟨hB, hsz, R3, R4, R5, R6, RS⟩ := A5 hW
  have R3 := Lib.hid R3
  have R4 := Lib.hid R4
  have R5 := Lib.hid R5
  have R6 := Lib.hid R6
  have RS := Lib.hid RS
  clear hW hsz
  refine (HC.out _ _ _ (HE.out.below hB) RS.out).mono ?_
  rintro e w1 ⟨rfl, hb⟩
  replace hB := bstep hB hb
  have R3 := Lib.hid (keep hb R3.out)
  have R4 := Lib.hid (keep hb R4.out)
  have R5 := Lib.hid (keep hb R5.out)
  have R6 := Lib.hid (keep hb R6.out)
  clear hb
  go_wp2_with fail
  go_cut [9] (fun x wc => ∃ p : Nat, x = .pointer (some ⟨p, 0, none⟩) ∧ Hid (wc.heap[p]? = some (.cells #[.string n0, .string n1, .string n2] 28 (0, 0))) ∧ Hid (wc.heap[w.heap.size]? = some (.cells #[.string a0, .string a1, .string a2] 28 (0, 0))) ∧
      Hid (wc.heap[w.heap.size + 3]? = some (.cells #[.string ⟨#[]⟩, .string ⟨#[]⟩, .string ⟨#[]⟩, .string ⟨#[]⟩] 48 (0, 0))) ∧ Below w.heap.size w wc ∧ w.heap.size + 3 < p)
  case first =>
    obtain ⟨R3c0, R3c1, R3c2, R3f0, R3f1, R3f2⟩ := row3 R3.out
    obtain ⟨R4c0, R4c1, R4c2, R4f0, R4f1, R4f2⟩ := row3 R4.out
    obtain ⟨R5c0, R5c1, R5c2, R5f0, R5f1, R5f2⟩ := row3 R5.out
    have lw := lt_of_row R6.out
    have hB0 := hB.drew
    first
    | go_region_held3 (fun w' => w'.cell? ⟨w.heap.size, 0, none⟩ = some (.string a0) ∧ w'.cell? ⟨w.heap.size, 1, none⟩ = some (.string a1) ∧ w'.cell? ⟨w.heap.size, 2, none⟩ = some (.string a2) ∧ w'.cell? ⟨w.heap.size + 1, 0, none⟩ = some (.string b0) ∧ w'.cell? ⟨w.heap.size + 1, 1, none⟩ = some (.string b1) ∧ w'.cell? ⟨w.heap.size + 1, 2, none⟩ = some (.string b2) ∧ w'.cell? ⟨w.heap.size + 2, 0, none⟩ = some (.string c0) ∧ w'.cell? ⟨w.heap.size + 2, 1, none⟩ = some (.string c1) ∧ w'.cell? ⟨w.heap.size + 2, 2, none⟩ = some (.string c2)) (first | with_reducible exact k9D ⟨R3c0, R3c1, R3c2, R4c0, R4c1, R4c2, R5c0, R5c1, R5c2⟩ | with_reducible exact ⟨by with_reducible assumption, by with_reducible assumption, by with_reducible assumption, by with_reducible assumption, by with_reducible assumption, by with_reducible assumption, by with_reducible assumption, by with_reducible assumption, by with_reducible assumption⟩ | with_reducible exact k9L ⟨by with_reducible assumption, by with_reducible assumption, by with_reducible assumption, by with_reducible assumption, by with_reducible assumption, by with_reducible assumption, by with_reducible assumption, by with_reducible assumption, by with_reducible assumption⟩ | with_reducible exact k9A ⟨R3c0, R3c1, R3c2, R4c0, R4c1, R4c2, R5c0, R5c1, R5c2⟩ | with_reducible exact k9S (by omega) (by omega) (by omega) (k9S (by omega) (by omega) (by omega) (k9S (by omega) (by omega) (by omega) ⟨by with_reducible assumption, by with_reducible assumption, by with_reducible assumption, by with_reducible assumption, by with_reducible assumption, by with_reducible assumption, by with_reducible assumption, by with_reducible assumption, by with_reducible assumption⟩)))
        (first
          | ((first | go_at_call 70); (with_reducible refine (H1.out _ (HE.out.below (by first | exact hB0 | exact bstep hB0 (A1 rfl).1 | exact (bstep hB0 (A1 rfl).1).drew))).mono ?_); rintro e w2 ⟨rfl, hb⟩; have hB1 : Below w.heap.size w w2 := (by first | exact bstep hB0 hb | exact bstep (bstep hB0 (A1 rfl).1) hb | exact bstep (bstep hB0 (A1 rfl).1).drew hb); (first | (with_reducible have R3 := Lib.hid (keep hb R3.out)) | (with_reducible have R3 := Lib.hid (keep hb (old1 R3.out))) | (with_reducible have R3 := Lib.hid (keep hb (oldD R3.out))) | (with_reducible have R3 := Lib.hid (keep hb (old1D R3.out)))); (first | (with_reducible have R4 := Lib.hid (keep hb R4.out)) | (with_reducible have R4 := Lib.hid (keep hb (old1 R4.out))) | (with_reducible have R4 := Lib.hid (keep hb (oldD R4.out))) | (with_reducible have R4 := Lib.hid (keep hb (old1D R4.out)))); (first | (with_reducible have R5 := Lib.hid (keep hb R5.out)) | (with_reducible have R5 := Lib.hid (keep hb (old1 R5.out))) | (with_reducible have R5 := Lib.hid (keep hb (oldD R5.out))) | (with_reducible have R5 := Lib.hid (keep hb (old1D R5.out)))); (first | (with_reducible have R6 := Lib.hid (keep hb R6.out)) | (with_reducible have R6 := Lib.hid (keep hb (old1 R6.out))) | (with_reducible have R6 := Lib.hid (keep hb (oldD R6.out))) | (with_reducible have R6 := Lib.hid (keep hb (old1D R6.out)))); (first | (have RN := Lib.hid (keep hb RN.out)) | (with_reducible have RN := Lib.hid (keep hb (heap_alloc_new _ _))) | (with_reducible have RN := Lib.hid (keep hb (newD _ _))) | skip); obtain ⟨R3d0, R3d1, R3d2, R3g0, R3g1, R3g2⟩ := row3 R3.out; obtain ⟨R4d0, R4d1, R4d2, R4g0, R4g1, R4g2⟩ := row3 R4.out; obtain ⟨R5d0, R5d1, R5d2, R5g0, R5g1, R5g2⟩ := row3 R5.out; have lw2 := lt_of_row R6.out; (first | (have RNx := row3 RN.out; obtain ⟨RNd0, RNd1, RNd2, RNg0, RNg1, RNg2⟩ := RNx) | skip); clear hb)
          | ((first | go_at_call 70); (with_reducible refine (H2.out _ (HE.out.below (by first | exact hB1 | exact bstep hB1 (A1 rfl).1 | exact (bstep hB1 (A1 rfl).1).drew))).mono ?_); rintro e w3 ⟨rfl, hb⟩; have hB2 : Below w.heap.size w w3 := (by first | exact bstep hB1 hb | exact bstep (bstep hB1 (A1 rfl).1) hb | exact bstep (bstep hB1 (A1 rfl).1).drew hb); (first | (with_reducible have R3 := Lib.hid (keep hb R3.out)) | (with_reducible have R3 := Lib.hid (keep hb (old1 R3.out))) | (with_reducible have R3 := Lib.hid (keep hb (oldD R3.out))) | (with_reducible have R3 := Lib.hid (keep hb (old1D R3.out)))); (first | (with_reducible have R4 := Lib.hid (keep hb R4.out)) | (with_reducible have R4 := Lib.hid (keep hb (old1 R4.out))) | (with_reducible have R4 := Lib.hid (keep hb (oldD R4.out))) | (with_reducible have R4 := Lib.hid (keep hb (old1D R4.out)))); (first | (with_reducible have R5 := Lib.hid (keep hb R5.out)) | (with_reducible have R5 := Lib.hid (keep hb (old1 R5.out))) | (with_reducible have R5 := Lib.hid (keep hb (oldD R5.out))) | (with_reducible have R5 := Lib.hid (keep hb (old1D R5.out)))); (first | (with_reducible have R6 := Lib.hid (keep hb R6.out)) | (with_reducible have R6 := Lib.hid (keep hb (old1 R6.out))) | (with_reducible have R6 := Lib.hid (keep hb (oldD R6.out))) | (with_reducible have R6 := Lib.hid (keep hb (old1D R6.out)))); (first | (have RN := Lib.hid (keep hb RN.out)) | (with_reducible have RN := Lib.hid (keep hb (heap_alloc_new _ _))) | (with_reducible have RN := Lib.hid (keep hb (newD _ _))) | skip); obtain ⟨R3d0, R3d1, R3d2, R3g0, R3g1, R3g2⟩ := row3 R3.out; obtain ⟨R4d0, R4d1, R4d2, R4g0, R4g1, R4g2⟩ := row3 R4.out; obtain ⟨R5d0, R5d1, R5d2, R5g0, R5g1, R5g2⟩ := row3 R5.out; have lw3 := lt_of_row R6.out; (first | (have RNx := row3 RN.out; obtain ⟨RNd0, RNd1, RNd2, RNg0, RNg1, RNg2⟩ := RNx) | skip); clear hb)
          | ((first | go_at_call 85); (with_reducible refine (H3.out _ (HE.out.below (by first | exact hB2 | exact bstep hB2 (A1 rfl).1 | exact (bstep hB2 (A1 rfl).1).drew))).mono ?_); rintro e w4 ⟨rfl, hb⟩; have hB3 : Below w.heap.size w w4 := (by first | exact bstep hB2 hb | exact bstep (bstep hB2 (A1 rfl).1) hb | exact bstep (bstep hB2 (A1 rfl).1).drew hb); (first | (with_reducible have R3 := Lib.hid (keep hb R3.out)) | (with_reducible have R3 := Lib.hid (keep hb (old1 R3.out))) | (with_reducible have R3 := Lib.hid (keep hb (oldD R3.out))) | (with_reducible have R3 := Lib.hid (keep hb (old1D R3.out)))); (first | (with_reducible have R4 := Lib.hid (keep hb R4.out)) | (with_reducible have R4 := Lib.hid (keep hb (old1 R4.out))) | (with_reducible have R4 := Lib.hid (keep hb (oldD R4.out))) | (with_reducible have R4 := Lib.hid (keep hb (old1D R4.out)))); (first | (with_reducible have R5 := Lib.hid (keep hb R5.out)) | (with_reducible have R5 := Lib.hid (keep hb (old1 R5.out))) | (with_reducible have R5 := Lib.hid (keep hb (oldD R5.out))) | (with_reducible have R5 := Lib.hid (keep hb (old1D R5.out)))); (first | (with_reducible have R6 := Lib.hid (keep hb R6.out)) | (with_reducible have R6 := Lib.hid (keep hb (old1 R6.out))) | (with_reducible have R6 := Lib.hid (keep hb (oldD R6.out))) | (with_reducible have R6 := Lib.hid (keep hb (old1D R6.out)))); (first | (have RN := Lib.hid (keep hb RN.out)) | (with_reducible have RN := Lib.hid (keep hb (heap_alloc_new _ _))) | (with_reducible have RN := Lib.hid (keep hb (newD _ _))) | skip); obtain ⟨R3d0, R3d1, R3d2, R3g0, R3g1, R3g2⟩ := row3 R3.out; obtain ⟨R4d0, R4d1, R4d2, R4g0, R4g1, R4g2⟩ := row3 R4.out; obtain ⟨R5d0, R5d1, R5d2, R5g0, R5g1, R5g2⟩ := row3 R5.out; have lw4 := lt_of_row R6.out; (first | (have RNx := row3 RN.out; obtain ⟨RNd0, RNd1, RNd2, RNg0, RNg1, RNg2⟩ := RNx) | skip); clear hb))
    | fail
    all_goals
      go_wp2_with fail
      go_meet
      first
      | with_reducible exact ⟨_, rfl, Lib.hid (heap_alloc_new _ _), Lib.hid (old1 R3.out), Lib.hid (old1 R6.out), bstep hB3 (A1 rfl).1, by omega⟩
      | with_reducible exact ⟨_, rfl, Lib.hid (store3 RN.out _ _ _), Lib.hid (store3_other (by omega) R3.out _ _ _), Lib.hid (store3_other (by omega) R6.out _ _ _), store3_below hB3 (by omega) _ _ _, by omega⟩
  case rest =>
    obtain ⟨p, rfl, RP, R3, R6, hB, hp⟩ := hcut
    clear R4 R5
    go_wp2_with fail
    go_cut [10] (fun x wd => ∃ q : Nat, x = .pointer (some ⟨q, 0, none⟩) ∧ Hid (wd.heap[q]? = some (.cells #[.string n0, .string n1, .string n2, .string d] 48 (0, 0))) ∧
      Hid (wd.heap[w.heap.size + 3]? = some (.cells #[.string ⟨#[]⟩, .string ⟨#[]⟩, .string ⟨#[]⟩, .string ⟨#[]⟩] 48 (0, 0))) ∧ Below w.heap.size w wd)
    case first =>
      obtain ⟨RPc0, RPc1, RPc2, RPf0, RPf1, RPf2⟩ := row3 RP.out
      obtain ⟨R3c0, R3c1, R3c2, R3f0, R3f1, R3f2⟩ := row3 R3.out
      have lw := lt_of_row R6.out
      have lp := lt_of_row RP.out
      have hB0 := hB.drew
      first
      | go_region_held3 (fun w' => w'.cell? ⟨p, 0, none⟩ = some (.string n0) ∧ w'.cell? ⟨p, 1, none⟩ = some (.string n1) ∧ w'.cell? ⟨p, 2, none⟩ = some (.string n2) ∧ w'.cell? ⟨w.heap.size, 0, none⟩ = some (.string a0) ∧ w'.cell? ⟨w.heap.size, 1, none⟩ = some (.string a1) ∧ w'.cell? ⟨w.heap.size, 2, none⟩ = some (.string a2)) (first | with_reducible exact k6pD ⟨RPc0, RPc1, RPc2, R3c0, R3c1, R3c2⟩ | with_reducible exact ⟨by with_reducible assumption, by with_reducible assumption, by with_reducible assumption, by with_reducible assumption, by with_reducible assumption, by with_reducible assumption⟩ | with_reducible exact k6pL ⟨by with_reducible assumption, by with_reducible assumption, by with_reducible assumption, by with_reducible assumption, by with_reducible assumption, by with_reducible assumption⟩ | with_reducible exact k6pA ⟨RPc0, RPc1, RPc2, R3c0, R3c1, R3c2⟩ | with_reducible exact k6pS (by omega) (by omega) (k6pS (by omega) (by omega) (k6pS (by omega) (by omega) (k6pS (by omega) (by omega) ⟨by with_reducible assumption, by with_reducible assumption, by with_reducible assumption, by with_reducible assumption, by with_reducible assumption, by with_reducible assumption⟩))))
          (first
            | ((first | go_at_call 83); (with_reducible refine (H4.out _ (HE.out.below (by first | exact hB0 | exact (bstep hB (A1 rfl).1).drew))).mono ?_); rintro e w5 ⟨rfl, hb⟩; have hB1 : Below w.heap.size w w5 := (by first | exact bstep hB0 hb | exact bstep (bstep hB (A1 rfl).1).drew hb); (first | (with_reducible have RP := Lib.hid (keep hb RP.out)) | (with_reducible have RP := Lib.hid (keep hb (old1 RP.out))) | (with_reducible have RP := Lib.hid (keep hb (oldD RP.out))) | (with_reducible have RP := Lib.hid (keep hb (old1D RP.out)))); (first | (with_reducible have R3 := Lib.hid (keep hb R3.out)) | (with_reducible have R3 := Lib.hid (keep hb (old1 R3.out))) | (with_reducible have R3 := Lib.hid (keep hb (oldD R3.out))) | (with_reducible have R3 := Lib.hid (keep hb (old1D R3.out)))); (first | (with_reducible have R6 := Lib.hid (keep hb R6.out)) | (with_reducible have R6 := Lib.hid (keep hb (old1 R6.out))) | (with_reducible have R6 := Lib.hid (keep hb (oldD R6.out))) | (with_reducible have R6 := Lib.hid (keep hb (old1D R6.out)))); (first | (with_reducible have RN := Lib.hid (keep hb (heap_alloc_new _ _))) | (with_reducible have RN := Lib.hid (keep hb (newD _ _))) | skip); obtain ⟨d0, d1, d2, g0, g1, g2⟩ := row3 RP.out; obtain ⟨j0, j1, j2, k0, k1, k2⟩ := row3 R3.out; have lw5 := lt_of_row R6.out; (first | (have RNx := row4 RN.out; obtain ⟨RNd0, RNd1, RNd2, RNd3, RNg0, RNg1, RNg2, RNg3⟩ := RNx) | skip); clear hb))
      | fail
      all_goals
        go_wp2_with fail
        go_meet
        first
        | with_reducible exact ⟨_, rfl, Lib.hid (heap_alloc_new _ _), Lib.hid (old1 R6.out), bstep hB1 (A1 rfl).1⟩
        | with_reducible exact ⟨_, rfl, Lib.hid (store4 RN.out _ _ _ _), Lib.hid (store4_other (by omega) R6.out _ _ _ _), store4_below hB1 (by omega) _ _ _ _⟩
    case rest =>
      obtain ⟨q, rfl, RQ, R6, hB⟩ := hcut
      obtain ⟨q0, q1, q2, q3, q4, q5, q6, q7⟩ := row4 RQ.out
      go_wp2_with fail
      clear q0 q1 q2 q3 q4 q5 q6 q7
      refine (H5.out _ (HE.out.below hB)).mono ?_
      rintro e w9 ⟨rfl, hb⟩
      replace hB := bstep hB hb
      have RQ := Lib.hid (keep hb RQ.out)
      have R6 := Lib.hid (keep hb R6.out)
      clear hb
      obtain ⟨q0, q1, q2, q3, q4, q5, q6, q7⟩ := row4 RQ.out
      obtain ⟨r0, r1, r2, r3, r4, r5, r6, r7⟩ := row4 R6.out
      go_wp2_with fail
      exact bodyPost_ret (res_ct rfl plane_row rfl (store4 R6.out _ _ _ _) rfl) rfl ⟨rfl, store4_below hB (by omega) _ _ _ _⟩
end Go.Proofs.YtgbabmkclojgeaaGreatDoor

/- Walks of the program's package vector: Crossing, at a valid plane and valid points on two sides of it. -/
namespace Go.Proofs.YtgbabmkclojgeaaGreatDoor
open Go.RowKit Go.Shelf Go.Sort

attribute [local go_sem] Oper.semAt_some vec_guard vec_eq

section
variable {w : World} {G : Nat} {a0 a1 a2 b0 b1 b2 : Value}
theorem k6qD (h : (w).cell? ⟨G + 1, 0, none⟩ = some a0 ∧ (w).cell? ⟨G + 1, 1, none⟩ = some a1 ∧ (w).cell? ⟨G + 1, 2, none⟩ = some a2 ∧ (w).cell? ⟨G + 2, 0, none⟩ = some b0 ∧ (w).cell? ⟨G + 2, 1, none⟩ = some b1 ∧ (w).cell? ⟨G + 2, 2, none⟩ = some b2) : (w.drew).cell? ⟨G + 1, 0, none⟩ = some a0 ∧ (w.drew).cell? ⟨G + 1, 1, none⟩ = some a1 ∧ (w.drew).cell? ⟨G + 1, 2, none⟩ = some a2 ∧ (w.drew).cell? ⟨G + 2, 0, none⟩ = some b0 ∧ (w.drew).cell? ⟨G + 2, 1, none⟩ = some b1 ∧ (w.drew).cell? ⟨G + 2, 2, none⟩ = some b2 := h
theorem k6qA {o : Obj} (h : (w).cell? ⟨G + 1, 0, none⟩ = some a0 ∧ (w).cell? ⟨G + 1, 1, none⟩ = some a1 ∧ (w).cell? ⟨G + 1, 2, none⟩ = some a2 ∧ (w).cell? ⟨G + 2, 0, none⟩ = some b0 ∧ (w).cell? ⟨G + 2, 1, none⟩ = some b1 ∧ (w).cell? ⟨G + 2, 2, none⟩ = some b2) : ((w.alloc o).drew).cell? ⟨G + 1, 0, none⟩ = some a0 ∧ ((w.alloc o).drew).cell? ⟨G + 1, 1, none⟩ = some a1 ∧ ((w.alloc o).drew).cell? ⟨G + 1, 2, none⟩ = some a2 ∧ ((w.alloc o).drew).cell? ⟨G + 2, 0, none⟩ = some b0 ∧ ((w.alloc o).drew).cell? ⟨G + 2, 1, none⟩ = some b1 ∧ ((w.alloc o).drew).cell? ⟨G + 2, 2, none⟩ = some b2 := by
  obtain ⟨h0, h1, h2, h3, h4, h5⟩ := h
  exact ⟨cellA (w := w.drew) h0, cellA (w := w.drew) h1, cellA (w := w.drew) h2, cellA (w := w.drew) h3, cellA (w := w.drew) h4, cellA (w := w.drew) h5⟩
theorem k6qS {q i : Nat} {x : Value} (m0 : q ≠ G + 1) (m1 : q ≠ G + 2) (h : (w).cell? ⟨G + 1, 0, none⟩ = some a0 ∧ (w).cell? ⟨G + 1, 1, none⟩ = some a1 ∧ (w).cell? ⟨G + 1, 2, none⟩ = some a2 ∧ (w).cell? ⟨G + 2, 0, none⟩ = some b0 ∧ (w).cell? ⟨G + 2, 1, none⟩ = some b1 ∧ (w).cell? ⟨G + 2, 2, none⟩ = some b2) : (w.setCell ⟨q, i, none⟩ x).cell? ⟨G + 1, 0, none⟩ = some a0 ∧ (w.setCell ⟨q, i, none⟩ x).cell? ⟨G + 1, 1, none⟩ = some a1 ∧ (w.setCell ⟨q, i, none⟩ x).cell? ⟨G + 1, 2, none⟩ = some a2 ∧ (w.setCell ⟨q, i, none⟩ x).cell? ⟨G + 2, 0, none⟩ = some b0 ∧ (w.setCell ⟨q, i, none⟩ x).cell? ⟨G + 2, 1, none⟩ = some b1 ∧ (w.setCell ⟨q, i, none⟩ x).cell? ⟨G + 2, 2, none⟩ = some b2 := by
  obtain ⟨h0, h1, h2, h3, h4, h5⟩ := h
  exact ⟨cellS (w := w) m0 h0, cellS (w := w) m0 h1, cellS (w := w) m0 h2, cellS (w := w) m1 h3, cellS (w := w) m1 h4, cellS (w := w) m1 h5⟩
theorem k6qL {o : Obj} (h : (w).cell? ⟨G + 1, 0, none⟩ = some a0 ∧ (w).cell? ⟨G + 1, 1, none⟩ = some a1 ∧ (w).cell? ⟨G + 1, 2, none⟩ = some a2 ∧ (w).cell? ⟨G + 2, 0, none⟩ = some b0 ∧ (w).cell? ⟨G + 2, 1, none⟩ = some b1 ∧ (w).cell? ⟨G + 2, 2, none⟩ = some b2) : (w.alloc o).cell? ⟨G + 1, 0, none⟩ = some a0 ∧ (w.alloc o).cell? ⟨G + 1, 1, none⟩ = some a1 ∧ (w.alloc o).cell? ⟨G + 1, 2, none⟩ = some a2 ∧ (w.alloc o).cell? ⟨G + 2, 0, none⟩ = some b0 ∧ (w.alloc o).cell? ⟨G + 2, 1, none⟩ = some b1 ∧ (w.alloc o).cell? ⟨G + 2, 2, none⟩ = some b2 := by
  obtain ⟨h0, h1, h2, h3, h4, h5⟩ := h
  exact ⟨cellA h0, cellA h1, cellA h2, cellA h3, cellA h4, cellA h5⟩
end


set_option maxRecDepth 100000 in
set_option maxHeartbeats 8000000 in
theorem ve_Crossing_aux (n0 n1 n2 c a0 a1 a2 b0 b1 b2 hx hy t q u0 u1 u2 v0 v1 v2 z0 z1 z2 : ByteArray) (sx sy : Int) (w : World) (hE : Env w) (ha : ShV (a0, a1, a2)) (hb : ShV (b0, b1, b2)) (h0 : chk2 (a0, a1, a2) (b0, b1, b2) = 0) (hs : ((decide (0 < sx)) == (decide (0 < sy))) = false)
    (h1 : ∀ w, Env w → Calls Tryz.prog 89 #[.agg #[.string n0, .string n1, .string n2, .string c]] w fun e w' => e = .returned (.int .i64 0) ∧ Below w.heap.size w w')
    (h2 : ∀ w, Env w → Calls Tryz.prog 91 #[.agg #[.string n0, .string n1, .string n2, .string c], .agg #[.string a0, .string a1, .string a2]] w fun e w' => e = .returned (.string hx) ∧ Below w.heap.size w w')
    (h3 : ∀ w, Env w → Calls Tryz.prog 91 #[.agg #[.string n0, .string n1, .string n2, .string c], .agg #[.string b0, .string b1, .string b2]] w fun e w' => e = .returned (.string hy) ∧ Below w.heap.size w w')
    (h4 : ∀ w, Env w → Calls Tryz.prog 90 #[.string hx] w fun e w' => e = .returned (.int .i64 sx) ∧ Below w.heap.size w w')
    (h5 : ∀ w, Env w → Calls Tryz.prog 90 #[.string hy] w fun e w' => e = .returned (.int .i64 sy) ∧ Below w.heap.size w w')
    (h6 : ∀ w, Env w → Calls Tryz.prog 70 #[fnV 76, .agg #[.string b0, .string b1, .string b2], .agg #[.string a0, .string a1, .string a2]] w fun e w' => e = .returned (.agg #[.string u0, .string u1, .string u2]) ∧ Below w.heap.size w w')
    (h7 : ∀ w, Env w → Calls Tryz.prog 76 #[.string hx, .string hy] w fun e w' => e = .returned (.string t) ∧ Below w.heap.size w w')
    (h8 : ∀ w, Env w → Calls Tryz.prog 96 #[.string hx, .string t] w fun e w' => e = .returned (.string q) ∧ Below w.heap.size w w')
    (h9 : ∀ w, Env w → Calls Tryz.prog 79 #[.agg #[.string u0, .string u1, .string u2], .string q] w fun e w' => e = .returned (.agg #[.string v0, .string v1, .string v2]) ∧ Below w.heap.size w w')
    (h10 : ∀ w, Env w → Calls Tryz.prog 70 #[fnV 71, .agg #[.string a0, .string a1, .string a2], .agg #[.string v0, .string v1, .string v2]] w fun e w' => e = .returned (.agg #[.string z0, .string z1, .string z2]) ∧ Below w.heap.size w w') :
    Calls Tryz.prog 38 #[.agg #[.string n0, .string n1, .string n2, .string c], .agg #[.string a0, .string a1, .string a2], .agg #[.string b0, .string b1, .string b2]] w fun e w' => e = .returned (.tuple #[.agg #[.string z0, .string z1, .string z2], .int .i64 0]) ∧ Below w.heap.size w w' := by
  have HC := Lib.hid (fun N t W hE h => ve_check2 (N := N) (t := t) ha hb W hE h)
  rw [h0] at HC
  have H1 := Lib.hid h1
  have H2 := Lib.hid h2
  have H3 := Lib.hid h3
  have H4 := Lib.hid h4
  have H5 := Lib.hid h5
  have H6 := Lib.hid h6
  have H7 := Lib.hid h7
  have H8 := Lib.hid h8
  have H9 := Lib.hid h9
  have H10 := Lib.hid h10
  have HE := Lib.hid hE
  clear hE h1 h2 h3 h4 h5 h6 h7 h8 h9 h10 h0 ha hb
  go_enter Tryz.func38, Tryz.ntmps38
  go_wp2_with fail
  generalize hW : (((World.alloc w _).alloc _).alloc _).alloc _ = W
  obtain ⟨hB, hsz, R3, R4, R5, R6⟩ := A4 hW
  have R3 := Lib.hid R3
  have R4 := Lib.hid R4
  have R5 := Lib.hid R5
  have R6 := Lib.hid R6
  clear hW hsz
  refine (H1.out _ (HE.out.below hB)).mono ?_
  rintro e w1 ⟨rfl, hb⟩
  replace hB := bstep hB hb
  have R3 := Lib.hid (keep hb R3.out)
  have R4 := Lib.hid (keep hb R4.out)
  have R5 := Lib.hid (keep hb R5.out)
  have R6 := Lib.hid (keep hb R6.out)
  clear hb
  obtain ⟨R4c0, R4c1, R4c2, R4f0, R4f1, R4f2⟩ := row3 R4.out
  obtain ⟨R5c0, R5c1, R5c2, R5f0, R5f1, R5f2⟩ := row3 R5.out
  go_wp2_with fail
  clear R4c0 R4c1 R4c2 R4f0 R4f1 R4f2
  clear R5c0 R5c1 R5c2 R5f0 R5f1 R5f2
  generalize hW : World.alloc _ _ = V
  obtain ⟨hb, hsz, RS⟩ := A1 hW
  replace hB := bstep hB hb
  have R3 := Lib.hid (keep hb R3.out)
  have R4 := Lib.hid (keep hb R4.out)
  have R5 := Lib.hid (keep hb R5.out)
  have R6 := Lib.hid (keep hb R6.out)
  clear hb
  have RS := Lib.hid RS
  clear hW hsz
  refine (HC.out _ _ _ (HE.out.below hB) RS.out).mono ?_
  rintro e w2 ⟨rfl, hb⟩
  replace hB := bstep hB hb
  have R3 := Lib.hid (keep hb R3.out)
  have R4 := Lib.hid (keep hb R4.out)
  have R5 := Lib.hid (keep hb R5.out)
  have R6 := Lib.hid (keep hb R6.out)
  clear hb RS
  go_wp2_with fail
  have e0 : ∀ d os, (grow (redrawn w2 d) os).cell? ⟨w.heap.size, 0, none⟩ = some (.string n0) := fun d os => cell_regrown (row4 R3.out).1 d os
  have e1 : ∀ d os, (grow (redrawn w2 d) os).cell? ⟨w.heap.size, 1, none⟩ = some (.string n1) := fun d os => cell_regrown (row4 R3.out).2.1 d os
  have e2 : ∀ d os, (grow (redrawn w2 d) os).cell? ⟨w.heap.size, 2, none⟩ = some (.string n2) := fun d os => cell_regrown (row4 R3.out).2.2.1 d os
  have e3 : ∀ d os, (grow (redrawn w2 d) os).cell? ⟨w.heap.size, 3, none⟩ = some (.string c) := fun d os => cell_regrown (row4 R3.out).2.2.2.1 d os
  have e4 : ∀ d os, (grow (redrawn w2 d) os).cell? ⟨w.heap.size + 1, 0, none⟩ = some (.string a0) := fun d os => cell_regrown (row3 R4.out).1 d os
  have e5 : ∀ d os, (grow (redrawn w2 d) os).cell? ⟨w.heap.size + 1, 1, none⟩ = some (.string a1) := fun d os => cell_regrown (row3 R4.out).2.1 d os
  have e6 : ∀ d os, (grow (redrawn w2 d) os).cell? ⟨w.heap.size + 1, 2, none⟩ = some (.string a2) := fun d os => cell_regrown (row3 R4.out).2.2.1 d os
  have e7 : ∀ d os, (grow (redrawn w2 d) os).cell? ⟨w.heap.size + 2, 0, none⟩ = some (.string b0) := fun d os => cell_regrown (row3 R5.out).1 d os
  have e8 : ∀ d os, (grow (redrawn w2 d) os).cell? ⟨w.heap.size + 2, 1, none⟩ = some (.string b1) := fun d os => cell_regrown (row3 R5.out).2.1 d os
  have e9 : ∀ d os, (grow (redrawn w2 d) os).cell? ⟨w.heap.size + 2, 2, none⟩ = some (.string b2) := fun d os => cell_regrown (row3 R5.out).2.2.1 d os
  have hE := HE.out.below hB
  have S1 := Lib.hid (fun d os => Calls.regrown_of (H2.out (grow (redrawn w2 d) os) (hE.below (below_regrown w2 d os))))
  have S2 := Lib.hid (fun d os => Calls.regrown_of (H3.out (grow (redrawn w2 d) os) (hE.below (below_regrown w2 d os))))
  clear hE H2 H3
  refine wp_region_quiet_below (by kernel_rfl) (by kernel_rfl) ?_
  repeat (first | quiet_step (with_reducible exact S1.out _ _) | quiet_step (with_reducible exact S2.out _ _))
  refine wpQuiet_nil ?_
  intro _ hw'
  obtain ⟨⟨dq, osq⟩, hw''⟩ := hw'
  subst hw''
  have hb := below_regrown w2 dq osq
  clear e0 e1 e2 e3 e4 e5 e6 e7 e8 e9 S1 S2
  generalize grow (redrawn w2 dq) osq = W3 at *
  replace hB := bstep hB hb
  have R4 := Lib.hid (keep hb R4.out)
  have R5 := Lib.hid (keep hb R5.out)
  have R6 := Lib.hid (keep hb R6.out)
  clear hb R3
  go_wp2_with fail
  refine (H4.out _ (HE.out.below hB)).mono ?_
  rintro e w4 ⟨rfl, hb⟩
  replace hB := bstep hB hb
  have R4 := Lib.hid (keep hb R4.out)
  have R5 := Lib.hid (keep hb R5.out)
  have R6 := Lib.hid (keep hb R6.out)
  clear hb
  go_wp2_with fail
  refine (H5.out _ (HE.out.below hB)).mono ?_
  rintro e w5 ⟨rfl, hb⟩
  replace hB := bstep hB hb
  have R4 := Lib.hid (keep hb R4.out)
  have R5 := Lib.hid (keep hb R5.out)
  have R6 := Lib.hid (keep hb R6.out)
  clear hb
  go_wp2_with fail
  obtain ⟨R4c0, R4c1, R4c2, R4f0, R4f1, R4f2⟩ := row3 R4.out
  obtain ⟨R5c0, R5c1, R5c2, R5f0, R5f1, R5f2⟩ := row3 R5.out
  have hB0 := hB.drew
  first
  | go_region_held3 (fun w' => w'.cell? ⟨w.heap.size + 1, 0, none⟩ = some (.string a0) ∧ w'.cell? ⟨w.heap.size + 1, 1, none⟩ = some (.string a1) ∧ w'.cell? ⟨w.heap.size + 1, 2, none⟩ = some (.string a2) ∧ w'.cell? ⟨w.heap.size + 2, 0, none⟩ = some (.string b0) ∧ w'.cell? ⟨w.heap.size + 2, 1, none⟩ = some (.string b1) ∧ w'.cell? ⟨w.heap.size + 2, 2, none⟩ = some (.string b2)) (first | with_reducible exact k6qD ⟨R4c0, R4c1, R4c2, R5c0, R5c1, R5c2⟩ | with_reducible exact ⟨by with_reducible assumption, by with_reducible assumption, by with_reducible assumption, by with_reducible assumption, by with_reducible assumption, by with_reducible assumption⟩ | with_reducible exact k6qS (by omega) (by omega) (k6qS (by omega) (by omega) (k6qS (by omega) (by omega) ⟨by with_reducible assumption, by with_reducible assumption, by with_reducible assumption, by with_reducible assumption, by with_reducible assumption, by with_reducible assumption⟩)))
      (first
        | (go_at_call 70; (with_reducible refine (H6.out _ (HE.out.below hB0)).mono ?_); rintro e w6 ⟨rfl, hb⟩; have hB1 := bstep hB0 hb; have R4 := Lib.hid (keep hb R4.out); have R5 := Lib.hid (keep hb R5.out); have R6 := Lib.hid (keep hb R6.out); obtain ⟨d0, d1, d2, g0, g1, g2⟩ := row3 R4.out; obtain ⟨j0, j1, j2, k0, k1, k2⟩ := row3 R5.out; obtain ⟨m0, m1, m2, p0, p1, p2⟩ := row3 R6.out; clear hb)
        | (go_at_call 76; (with_reducible refine (H7.out _ (HE.out.below hB1)).mono ?_); rintro e w7 ⟨rfl, hb⟩; have hB2 := bstep hB1 hb; have R4 := Lib.hid (keep hb R4.out); have R5 := Lib.hid (keep hb R5.out); have R6 := Lib.hid (keep hb R6.out); obtain ⟨d0, d1, d2, g0, g1, g2⟩ := row3 R4.out; obtain ⟨j0, j1, j2, k0, k1, k2⟩ := row3 R5.out; obtain ⟨m0, m1, m2, p0, p1, p2⟩ := row3 R6.out; clear hb)
        | (go_at_call 96; (with_reducible refine (H8.out _ (HE.out.below hB2)).mono ?_); rintro e w8 ⟨rfl, hb⟩; have hB3 := bstep hB2 hb; have R4 := Lib.hid (keep hb R4.out); have R5 := Lib.hid (keep hb R5.out); have R6 := Lib.hid (keep hb R6.out); obtain ⟨d0, d1, d2, g0, g1, g2⟩ := row3 R4.out; obtain ⟨j0, j1, j2, k0, k1, k2⟩ := row3 R5.out; obtain ⟨m0, m1, m2, p0, p1, p2⟩ := row3 R6.out; clear hb)
        | (go_at_call 79; (with_reducible refine (H9.out _ (HE.out.below hB3)).mono ?_); rintro e w9 ⟨rfl, hb⟩; have hB4 := bstep hB3 hb; have R4 := Lib.hid (keep hb R4.out); have R5 := Lib.hid (keep hb R5.out); have R6 := Lib.hid (keep hb R6.out); obtain ⟨d0, d1, d2, g0, g1, g2⟩ := row3 R4.out; obtain ⟨j0, j1, j2, k0, k1, k2⟩ := row3 R5.out; obtain ⟨m0, m1, m2, p0, p1, p2⟩ := row3 R6.out; clear hb)
        | (go_at_call 70; (with_reducible refine (H10.out _ (HE.out.below hB4)).mono ?_); rintro e w10 ⟨rfl, hb⟩; have hB5 := bstep hB4 hb; have R4 := Lib.hid (keep hb R4.out); have R5 := Lib.hid (keep hb R5.out); have R6 := Lib.hid (keep hb R6.out); obtain ⟨d0, d1, d2, g0, g1, g2⟩ := row3 R4.out; obtain ⟨j0, j1, j2, k0, k1, k2⟩ := row3 R5.out; obtain ⟨m0, m1, m2, p0, p1, p2⟩ := row3 R6.out; clear hb))
  | fail
  all_goals
    go_wp2_with fail
    exact bodyPost_ret (res_ct rfl vec_row rfl (store3 R6.out _ _ _) rfl) rfl ⟨rfl, store3_below hB5 (by omega) _ _ _⟩
end Go.Proofs.YtgbabmkclojgeaaGreatDoor

/- Walks of the program's package vector: Range, at valid points. -/
namespace Go.Proofs.YtgbabmkclojgeaaGreatDoor
open Go.RowKit Go.Shelf Go.Sort

attribute [local go_sem] Oper.semAt_some vec_guard vec_eq

theorem ivl_row : RowTy Tryz.prog 73 2 := rowTy_struct Tryz.underlying73 (by kernel_rfl)
/-- The texts of vectors. -/
def txV (S : Nat → V3) (i : Nat) : ByteArray × ByteArray × ByteArray := (rs (S i).x, rs (S i).y, rs (S i).z)
/-- The least and the greatest product so far. -/
def rng (S : Nat → V3) (a : V3) : Nat → Rat × Rat
  | 0 => (dotV (S 0) a, dotV (S 0) a)
  | k + 1 => (if cmpQ (dotV (S (k + 1)) a - (rng S a k).1) 0 < 0 then dotV (S (k + 1)) a else (rng S a k).1, if 0 < cmpQ (dotV (S (k + 1)) a - (rng S a k).2) 0 then dotV (S (k + 1)) a else (rng S a k).2)
theorem sz_rng {K n : Nat} {S : Nat → V3} {a : V3} (hS : ∀ i, i < n → SzV K (S i)) (ha : SzV K a) : ∀ k, k < n → Sz (20 * K) (rng S a k).1 ∧ Sz (20 * K) (rng S a k).2
  | 0, h => ⟨sz_dot (hS 0 h) ha, sz_dot (hS 0 h) ha⟩
  | k + 1, h => by
    obtain ⟨h1, h2⟩ := sz_rng hS ha k (by omega)
    have hd := sz_dot (hS (k + 1) h) ha
    unfold rng
    constructor
    · show Sz _ (if _ then _ else _); split
      · exact hd
      · exact h1
    · show Sz _ (if _ then _ else _); split
      · exact hd
      · exact h2

theorem set2_0 {w : World} {g : Nat} {a b x : Value} {t : TypeId} (h : w.heap[g]? = some (.cells #[a, b] t (0, 0))) : (w.setCell ⟨g, 0, none⟩ x).heap[g]? = some (.cells #[x, b] t (0, 0)) := by
  rw [heap_setCell_same w g 0 _ _ x h]; rfl
theorem set2_1 {w : World} {g : Nat} {a b x : Value} {t : TypeId} (h : w.heap[g]? = some (.cells #[a, b] t (0, 0))) : (w.setCell ⟨g, 1, none⟩ x).heap[g]? = some (.cells #[a, x] t (0, 0)) := by
  rw [heap_setCell_same w g 1 _ _ x h]; rfl

set_option maxRecDepth 100000 in
set_option maxHeartbeats 8000000 in
theorem ve_Range (b o n c : Nat) (S : Nat → V3) (a : V3) (w : World) (hE : Env w) (hn : 1 ≤ n) (hn2 : n ≤ 1536) (hc : 1 < c) (hcm : c ≤ 100000000) (hA : VecsAt w b o n (txV S)) (hS : ∀ i, i < n → SzV 20000 (S i)) (ha : SzV 20000 a) :
    Calls Tryz.prog 47 #[.slice (some ⟨b, o, none⟩) n c, vV a] w fun e w' => e = .returned (.tuple #[.agg #[.string (rs (rng S a (n - 1)).1), .string (rs (rng S a (n - 1)).2)], .int .i64 0]) ∧ Below w.heap.size w w' := by
  have HA := Lib.hid hA
  have hsh := sh_of ha (by decide)
  have HV := fun w hE => ve_Valid (rs a.x) (rs a.y) (rs a.z) w hE hsh.1 hsh.2.1 hsh.2.2
  rw [rvB_rs, rvB_rs, rvB_rs] at HV
  simp only [Bool.and_self] at HV
  have HV := Lib.hid HV
  have HC := Lib.hid (fun (w' : World) (hb : Below w.heap.size w w') => ve_check b o n c (txV S) 0 w' (hE.below hb) (by omega) (hA.below hb) (fun i hi => sh_of (hS i hi) (by decide)) (fun _ => rfl) (fun ⟨i, hi, hv⟩ => by rw [show vvB (txV S i) = true from vvB_rs (S i)] at hv; cases hv))
  have HD := Lib.hid (fun i (hi : i < n) w hE => ve_dot (S i) a w hE ((hS i hi).mono (by decide)) (ha.mono (by decide)))
  have HZ := Lib.hid (fun i (hi : i < n) => sz_rng hS ha i hi)
  have HW := Lib.hid (fun i (hi : i < n) => sz_dot (hS i hi) ha)
  have HE := Lib.hid hE
  clear hE hA hS ha hsh
  have hn0 : ((n : Int) == 0) = false := by rw [beq_eq_false_iff_ne]; omega
  have hn5 : decide ((1536 : Int) < (n : Int)) = false := by rw [decide_eq_false_iff_not]; omega
  have hp : 0 < n := by omega
  have hq : (0 : Int) < (n : Int) := by omega
  unfold vV
  go_enter Tryz.func47, Tryz.ntmps47
  go_wp2_with fail
  generalize hW : (World.alloc w _).alloc _ = W
  obtain ⟨hB, hsz, R3, R4⟩ := A2 hW
  have R3 := Lib.hid R3
  have R4 := Lib.hid R4
  clear hW hsz
  refine (HC.out _ hB).mono ?_
  rintro e w1 ⟨rfl, hb⟩
  replace hB := bstep hB hb
  have R3 := Lib.hid (keep hb R3.out)
  have R4 := Lib.hid (keep hb R4.out)
  clear hb
  obtain ⟨R3c0, R3c1, R3c2, R3f0, R3f1, R3f2⟩ := row3 R3.out
  go_wp2_with fail
  clear R3c0 R3c1 R3c2 R3f0 R3f1 R3f2
  refine (HV.out _ (HE.out.below hB)).mono ?_
  rintro e w2 ⟨rfl, hb⟩
  replace hB := bstep hB hb
  have R3 := Lib.hid (keep hb R3.out)
  have R4 := Lib.hid (keep hb R4.out)
  clear hb
  go_wp2_with fail
  obtain ⟨v0, v1, v2⟩ := (HA.out.below hB) 0 (by omega)
  simp only [Nat.zero_mul, Nat.add_zero] at v0 v1 v2
  unfold txV at v0 v1 v2
  simp only at v0 v1 v2
  have e0 : ∀ d os, (grow (redrawn w2 d) os).cell? ⟨b, o, none⟩ = some (.string (rs (S 0).x)) := fun d os => cell_regrown v0 d os
  have e1 : ∀ d os, (grow (redrawn w2 d) os).cell? ⟨b, o + 1, none⟩ = some (.string (rs (S 0).y)) := fun d os => cell_regrown v1 d os
  have e2 : ∀ d os, (grow (redrawn w2 d) os).cell? ⟨b, o + 2, none⟩ = some (.string (rs (S 0).z)) := fun d os => cell_regrown v2 d os
  have e3 : ∀ d os, (grow (redrawn w2 d) os).cell? ⟨w.heap.size, 0, none⟩ = some (.string (rs a.x)) := fun d os => cell_regrown (row3 R3.out).1 d os
  have e4 : ∀ d os, (grow (redrawn w2 d) os).cell? ⟨w.heap.size, 1, none⟩ = some (.string (rs a.y)) := fun d os => cell_regrown (row3 R3.out).2.1 d os
  have e5 : ∀ d os, (grow (redrawn w2 d) os).cell? ⟨w.heap.size, 2, none⟩ = some (.string (rs a.z)) := fun d os => cell_regrown (row3 R3.out).2.2.1 d os
  have hE := HE.out.below hB
  have S1 := Lib.hid (fun d os => Calls.regrown_of (HD.out 0 (by omega) (grow (redrawn w2 d) os) (hE.below (below_regrown w2 d os))))
  unfold vV at S1
  clear hE v0 v1 v2
  refine wp_region_quiet_below (by kernel_rfl) (by kernel_rfl) ?_
  repeat (first | quiet_step (with_reducible exact S1.out _ _))
  refine wpQuiet_nil ?_
  intro _ hw'
  obtain ⟨⟨dq, osq⟩, hw''⟩ := hw'
  subst hw''
  have hb := below_regrown w2 dq osq
  clear e0 e1 e2 e3 e4 e5 S1
  generalize grow (redrawn w2 dq) osq = W3 at *
  replace hB := bstep hB hb
  have R3 := Lib.hid (keep hb R3.out)
  have R4 := Lib.hid (keep hb R4.out)
  clear hb
  go_wp2_with fail
  have n1 : Hid (w.heap.size ≠ W3.heap.size) := Lib.hid (lp R3.out)
  have n2 : Hid (w.heap.size + 1 ≠ W3.heap.size) := Lib.hid (lp R4.out)
  have n3 : Hid (w.heap.size ≤ W3.heap.size) := Lib.hid (by have := lp2 R3.out; omega)
  generalize hW : World.alloc _ _ = V
  obtain ⟨hb, hsz, R7⟩ := A1 hW
  replace hB := bstep hB hb
  have R3 := Lib.hid (keep hb R3.out)
  have R4 := Lib.hid (keep hb R4.out)
  clear hb
  have R7 := Lib.hid R7
  clear hW hsz
  go_loopw [42] (fun x wr => ∃ k : Nat, k ≤ n - 1 ∧ x = .int .i64 k ∧ Below w.heap.size w wr ∧ Hid (wr.heap[w.heap.size]? = some (.cells #[.string (rs a.x), .string (rs a.y), .string (rs a.z)] 28 (0, 0))) ∧
      Hid (wr.heap[w.heap.size + 1]? = some (.cells #[.string ⟨#[]⟩, .string ⟨#[]⟩] 73 (0, 0))) ∧ Hid (wr.heap[W3.heap.size]? = some (.cells #[.string (rs (rng S a k).1), .string (rs (rng S a k).2)] 73 (0, 0)))) (fun x _ => n - (intOf x).toNat)
  case atStart => exact ⟨0, Nat.zero_le _, rfl, hB, R3, R4, R7⟩
  case round =>
    clear R3 R4 R7 hB
    obtain ⟨k, hk, rfl, hB, R3, R4, R7⟩ := hrel
    by_cases hlt : k < n - 1
    · obtain ⟨v0, v1, v2⟩ := (HA.out.below hB) (k + 1) (by omega)
      rw [show o + (k + 1) * 3 = o + 3 + k * 3 by omega] at v0 v1 v2
      unfold txV at v0 v1 v2
      simp only at v0 v1 v2
      have hz := HZ.out k (by omega)
      have hw := HW.out (k + 1) (by omega)
      have HDk := Lib.hid (fun w hE => HD.out (k + 1) (by omega) w hE)
      have B1 := Lib.hid (fun w hE => ve_sub (dotV (S (k + 1)) a) (rng S a k).1 w hE (hw.mono (by decide)) (hz.1.mono (by decide)))
      have B2 := Lib.hid (fun w hE => ve_sub (dotV (S (k + 1)) a) (rng S a k).2 w hE (hw.mono (by decide)) (hz.2.mono (by decide)))
      have G1 := Lib.hid (fun w hE => ve_sign (dotV (S (k + 1)) a - (rng S a k).1) w hE ((sz_sub hw hz.1).mono (by decide)))
      have G2 := Lib.hid (fun w hE => ve_sign (dotV (S (k + 1)) a - (rng S a k).2) w hE ((sz_sub hw hz.2).mono (by decide)))
      have hr1 : rs (rng S a (k + 1)).1 = if cmpQ (dotV (S (k + 1)) a - (rng S a k).1) 0 < 0 then rs (dotV (S (k + 1)) a) else rs (rng S a k).1 := by
        show rs (if _ then _ else _) = _
        split <;> rfl
      have hr2 : rs (rng S a (k + 1)).2 = if 0 < cmpQ (dotV (S (k + 1)) a - (rng S a k).2) 0 then rs (dotV (S (k + 1)) a) else rs (rng S a k).2 := by
        show rs (if _ then _ else _) = _
        split <;> rfl
      clear hz hw
      unfold vV at HDk
      have HR1 := Lib.hid hr1
      have HR2 := Lib.hid hr2
      clear hr1 hr2
      generalize cmpQ (dotV (S (k + 1)) a - (rng S a k).1) 0 = s1 at *
      generalize cmpQ (dotV (S (k + 1)) a - (rng S a k).2) 0 = s2 at *
      generalize rs (dotV (S (k + 1)) a - (rng S a k).1) = t1 at *
      generalize rs (dotV (S (k + 1)) a - (rng S a k).2) = t2 at *
      generalize rs (dotV (S (k + 1)) a) = x at *
      generalize rs (rng S a k).1 = lo at *
      generalize rs (rng S a k).2 = hi at *
      generalize rs (S (k + 1)).x = c0 at *
      generalize rs (S (k + 1)).y = c1 at *
      generalize rs (S (k + 1)).z = c2 at *
      by_cases h1 : s1 < 0 <;> by_cases h2 : 0 < s2
      all_goals
        obtain ⟨q0, q1, q2, q3, q4, q5⟩ := row3 R3.out
        have q6 := lp2 R3.out
        go_wp2_with fail
        clear q6 q0 q1 q2 q3 q4 q5
        clear v0 v1 v2
        generalize hW : World.alloc _ _ = U
        obtain ⟨hb, hsz, R9⟩ := A1 hW
        replace hB := bstep hB hb
        have R3 := Lib.hid (keep hb R3.out)
        have R4 := Lib.hid (keep hb R4.out)
        have R7 := Lib.hid (keep hb R7.out)
        clear hb
        have R9 := Lib.hid R9
        clear hW hsz
        refine (HDk.out _ (HE.out.below hB)).mono ?_
        rintro e w5 ⟨rfl, hb⟩
        replace hB := bstep hB hb
        have R3 := Lib.hid (keep hb R3.out)
        have R4 := Lib.hid (keep hb R4.out)
        have R7 := Lib.hid (keep hb R7.out)
        clear hb
        obtain ⟨p0, p1, p2, p3⟩ := row2 R7.out
        go_wp2_with fail
        clear p0 p1 p2 p3
        refine (B1.out _ (HE.out.below hB)).mono ?_
        rintro e w6 ⟨rfl, hb⟩
        replace hB := bstep hB hb
        have R3 := Lib.hid (keep hb R3.out)
        have R4 := Lib.hid (keep hb R4.out)
        have R7 := Lib.hid (keep hb R7.out)
        clear hb
        go_wp2_with fail
        refine (G1.out _ (HE.out.below hB)).mono ?_
        rintro e w7 ⟨rfl, hb⟩
        replace hB := bstep hB hb
        have R3 := Lib.hid (keep hb R3.out)
        have R4 := Lib.hid (keep hb R4.out)
        have R7 := Lib.hid (keep hb R7.out)
        clear hb
        obtain ⟨p0, p1, p2, p3⟩ := row2 R7.out
        go_wp2_with fail
        clear p0 p1 p2 p3
      · have hB := set_below hB n3.out (i := 0) (x := .string x)
        have R3 := Lib.hid (set_other n1.out R3.out (i := 0) (x := .string x))
        have R4 := Lib.hid (set_other n2.out R4.out (i := 0) (x := .string x))
        have R7 := Lib.hid (set2_0 R7.out (x := .string x))
        generalize w7.setCell ⟨W3.heap.size, 0, none⟩ (.string x) = X at *
        refine (B2.out _ (HE.out.below hB)).mono ?_
        rintro e w8 ⟨rfl, hb⟩
        replace hB := bstep hB hb
        have R3 := Lib.hid (keep hb R3.out)
        have R4 := Lib.hid (keep hb R4.out)
        have R7 := Lib.hid (keep hb R7.out)
        clear hb
        go_wp2_with fail
        refine (G2.out _ (HE.out.below hB)).mono ?_
        rintro e w9 ⟨rfl, hb⟩
        replace hB := bstep hB hb
        have R3 := Lib.hid (keep hb R3.out)
        have R4 := Lib.hid (keep hb R4.out)
        have R7 := Lib.hid (keep hb R7.out)
        clear hb
        obtain ⟨p0, p1, p2, p3⟩ := row2 R7.out
        go_wp2_with fail
        clear p0 p1 p2 p3
        go_roundw
        case rel => exact ⟨k + 1, by omega, by go_num, set_below hB n3.out, Lib.hid (set_other n1.out R3.out), Lib.hid (set_other n2.out R4.out), Lib.hid (by rw [HR1.out, HR2.out, if_pos h1, if_pos h2]; exact set2_1 R7.out)⟩
        case measure => simp [intOf]; omega
      · have hB := set_below hB n3.out (i := 0) (x := .string x)
        have R3 := Lib.hid (set_other n1.out R3.out (i := 0) (x := .string x))
        have R4 := Lib.hid (set_other n2.out R4.out (i := 0) (x := .string x))
        have R7 := Lib.hid (set2_0 R7.out (x := .string x))
        generalize w7.setCell ⟨W3.heap.size, 0, none⟩ (.string x) = X at *
        refine (B2.out _ (HE.out.below hB)).mono ?_
        rintro e w8 ⟨rfl, hb⟩
        replace hB := bstep hB hb
        have R3 := Lib.hid (keep hb R3.out)
        have R4 := Lib.hid (keep hb R4.out)
        have R7 := Lib.hid (keep hb R7.out)
        clear hb
        go_wp2_with fail
        refine (G2.out _ (HE.out.below hB)).mono ?_
        rintro e w9 ⟨rfl, hb⟩
        replace hB := bstep hB hb
        have R3 := Lib.hid (keep hb R3.out)
        have R4 := Lib.hid (keep hb R4.out)
        have R7 := Lib.hid (keep hb R7.out)
        clear hb
        obtain ⟨p0, p1, p2, p3⟩ := row2 R7.out
        go_wp2_with fail
        clear p0 p1 p2 p3
        go_roundw
        case rel => exact ⟨k + 1, by omega, by go_num, hB, R3, R4, Lib.hid (by rw [HR1.out, HR2.out, if_pos h1, if_neg (show ¬ 0 < s2 by omega)]; exact R7.out)⟩
        case measure => simp [intOf]; omega
      · skip
        refine (B2.out _ (HE.out.below hB)).mono ?_
        rintro e w8 ⟨rfl, hb⟩
        replace hB := bstep hB hb
        have R3 := Lib.hid (keep hb R3.out)
        have R4 := Lib.hid (keep hb R4.out)
        have R7 := Lib.hid (keep hb R7.out)
        clear hb
        go_wp2_with fail
        refine (G2.out _ (HE.out.below hB)).mono ?_
        rintro e w9 ⟨rfl, hb⟩
        replace hB := bstep hB hb
        have R3 := Lib.hid (keep hb R3.out)
        have R4 := Lib.hid (keep hb R4.out)
        have R7 := Lib.hid (keep hb R7.out)
        clear hb
        obtain ⟨p0, p1, p2, p3⟩ := row2 R7.out
        go_wp2_with fail
        clear p0 p1 p2 p3
        go_roundw
        case rel => exact ⟨k + 1, by omega, by go_num, set_below hB n3.out, Lib.hid (set_other n1.out R3.out), Lib.hid (set_other n2.out R4.out), Lib.hid (by rw [HR1.out, HR2.out, if_neg (show ¬ s1 < 0 by omega), if_pos h2]; exact set2_1 R7.out)⟩
        case measure => simp [intOf]; omega
      · skip
        refine (B2.out _ (HE.out.below hB)).mono ?_
        rintro e w8 ⟨rfl, hb⟩
        replace hB := bstep hB hb
        have R3 := Lib.hid (keep hb R3.out)
        have R4 := Lib.hid (keep hb R4.out)
        have R7 := Lib.hid (keep hb R7.out)
        clear hb
        go_wp2_with fail
        refine (G2.out _ (HE.out.below hB)).mono ?_
        rintro e w9 ⟨rfl, hb⟩
        replace hB := bstep hB hb
        have R3 := Lib.hid (keep hb R3.out)
        have R4 := Lib.hid (keep hb R4.out)
        have R7 := Lib.hid (keep hb R7.out)
        clear hb
        obtain ⟨p0, p1, p2, p3⟩ := row2 R7.out
        go_wp2_with fail
        clear p0 p1 p2 p3
        go_roundw
        case rel => exact ⟨k + 1, by omega, by go_num, hB, R3, R4, Lib.hid (by rw [HR1.out, HR2.out, if_neg (show ¬ s1 < 0 by omega), if_neg (show ¬ 0 < s2 by omega)]; exact R7.out)⟩
        case measure => simp [intOf]; omega
    · have hkn : k = n - 1 := by omega
      obtain ⟨R4c0, R4c1, R4f0, R4f1⟩ := row2 R4.out
      obtain ⟨R7c0, R7c1, R7f0, R7f1⟩ := row2 R7.out
      go_wp2_with fail
      rw [← hkn]
      exact bodyPost_ret (res_ct rfl ivl_row rfl (store2 R4.out _ _) rfl) rfl ⟨rfl, store2_below hB (by omega) _ _⟩
end Go.Proofs.YtgbabmkclojgeaaGreatDoor
