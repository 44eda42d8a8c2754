/- A solid opened. -/
import Derived.Test.YthkkdepppjiaeaaGreatDoorReRange
import Derived.OpenShut
namespace Go.Proofs.YthkkdepppjiaeaaGreatDoor
open Go.ChangeShapes Go.WideShapes Go.ChangeAt Go.ChangeMaps Go.RowKit Go.Deep

theorem cells_tri : Tryz.prog.cellsOf 79 = 9 := by kernel_rfl

section
variable {H : Type} {enc : TypeId × Value → H} {w : World} {base : Nat} {sp : Nat → Bool} {held : Bool}
set_option maxRecDepth 100000 in
theorem vec_strs {n : Nat} {cs : List Value} {x : DataW H × List MemPlace} (hl : cs.length = 3) (h : DataW.trod enc Tryz.prog w base sp held n 24 cs = some x) :
    ∃ s : ByteArray × ByteArray × ByteArray, cs = [.string s.1, .string s.2.1, .string s.2.2] ∧ Mx s := by
  obtain ⟨ys, n', hn', hy, hlen, hyl, hf⟩ := DataW.trod_struct Tryz.underlying24 h
  obtain ⟨v0, v1, v2, rfl⟩ : ∃ v0 v1 v2, cs = [v0, v1, v2] := by
    match cs, hl with
    | [v0, v1, v2], _ => exact ⟨_, _, _, rfl⟩
  obtain ⟨y0, y1, y2, rfl⟩ : ∃ y0 y1 y2, ys = [y0, y1, y2] := by
    match ys, hyl with
    | [y0, y1, y2], _ => exact ⟨_, _, _, rfl⟩
  have k0 : DataW.trod enc Tryz.prog w base sp held n' 22 (List.take (Tryz.prog.cellsOf 22) (List.drop 0 [v0, v1, v2])) = some y0 := hf 0 _ rfl
  have k1 : DataW.trod enc Tryz.prog w base sp held n' 22 (List.take (Tryz.prog.cellsOf 22) (List.drop 1 [v0, v1, v2])) = some y1 := hf 1 _ rfl
  have k2 : DataW.trod enc Tryz.prog w base sp held n' 22 (List.take (Tryz.prog.cellsOf 22) (List.drop 2 [v0, v1, v2])) = some y2 := hf 2 _ rfl
  rw [cells_rat] at k0 k1 k2
  obtain ⟨s0, e0, _, z0⟩ := DataW.trod_string Tryz.underlying22 (show DataW.trod enc Tryz.prog w base sp held n' 22 [v0] = some y0 from k0)
  obtain ⟨s1, e1, _, z1⟩ := DataW.trod_string Tryz.underlying22 (show DataW.trod enc Tryz.prog w base sp held n' 22 [v1] = some y1 from k1)
  obtain ⟨s2, e2, _, z2⟩ := DataW.trod_string Tryz.underlying22 (show DataW.trod enc Tryz.prog w base sp held n' 22 [v2] = some y2 from k2)
  obtain rfl := (List.cons.inj e0).1
  obtain rfl := (List.cons.inj e1).1
  obtain rfl := (List.cons.inj e2).1
  exact ⟨(s0, s1, s2), rfl, Nat.le_trans z0 mx_len, Nat.le_trans z1 mx_len, Nat.le_trans z2 mx_len⟩
set_option maxRecDepth 100000 in
theorem tri_cells {a : Addr} {n : Nat} {cs : List Value} {x : DataW H × List MemPlace} (hc : w.cells? base a 9 = some cs) (h : DataW.trod enc Tryz.prog w base sp held n 79 cs = some x) :
    ∃ S : Nat → ByteArray × ByteArray × ByteArray, ∀ r, r < 3 → w.cell? (a.add (r * 3 + 0)) = some (.string (S r).1) ∧ w.cell? (a.add (r * 3 + 1)) = some (.string (S r).2.1) ∧ w.cell? (a.add (r * 3 + 2)) = some (.string (S r).2.2) ∧ Mx (S r) := by
  obtain ⟨ys, n', hn', hy, hlen, hyl, hf⟩ := DataW.trod_array Tryz.underlying79 h
  obtain ⟨_, hcl, hat⟩ := World.cells?_some hc
  have hS : ∀ r, ∃ s : ByteArray × ByteArray × ByteArray, r < 3 → w.cell? (a.add (r * 3 + 0)) = some (.string s.1) ∧ w.cell? (a.add (r * 3 + 1)) = some (.string s.2.1) ∧ w.cell? (a.add (r * 3 + 2)) = some (.string s.2.2) ∧ Mx s := by
    intro r
    by_cases hr : r < 3
    · have k := hf r hr
      rw [cells_vec] at k
      have hl : ((cs.drop (r * 3)).take 3).length = 3 := by rw [List.length_take, List.length_drop, hcl]; omega
      rw [List.getElem?_eq_getElem (by omega)] at k
      obtain ⟨s, e, hm⟩ := vec_strs hl k
      have at_ : ∀ j, j < 3 → cs[r * 3 + j]? = [Value.string s.1, .string s.2.1, .string s.2.2][j]? := by
        intro j hj
        rw [← e, List.getElem?_take_of_lt hj, List.getElem?_drop]
      exact ⟨s, fun _ => ⟨(hat (r * 3 + 0) (by omega)).trans (at_ 0 (by decide)), (hat (r * 3 + 1) (by omega)).trans (at_ 1 (by decide)), (hat (r * 3 + 2) (by omega)).trans (at_ 2 (by decide)), hm⟩⟩
    · exact ⟨(⟨#[]⟩, ⟨#[]⟩, ⟨#[]⟩), fun k => absurd k hr⟩
  obtain ⟨S, hS⟩ := Classical.axiomOfChoice hS
  exact ⟨S, hS⟩
set_option maxRecDepth 100000 in
theorem open_sol {r : Reach} {b0 : Nat} {v : Value} {d : DataW H} {p : List MemPlace} (hv : Value.okWide Tryz.prog w r b0 71 v) (h : DataW.Trod enc Tryz.prog w base sp held 71 v d p) :
    ∃ (A : Option Addr) (n c : Nat) (T : Nat → ByteArray × ByteArray × ByteArray), v = .slice A n c ∧ (A = none → n = 0) ∧ (n = 0 ∨ ∃ b o, A = some ⟨b, o, none⟩ ∧ VecsAt w b o (n * 3) T) ∧ n ≤ 9223372036854775807 ∧ ∀ i, i < n * 3 → Mx (T i) := by
  obtain ⟨a0, len, cap, rfl⟩ := okWide_slice Tryz.underlying71 hv
  obtain ⟨fuel, hf⟩ := h
  rcases open_slice Tryz.underlying71 hf with ⟨hcs, hx⟩ | ⟨a, len', cap', m, k, D, Pl, hcs, _, hl, hm, hmm, hx, hi⟩
  · simp [Value.cells] at hcs
    obtain ⟨rfl, rfl, rfl⟩ := hcs
    exact ⟨none, 0, 0, fun _ => (⟨#[]⟩, ⟨#[]⟩, ⟨#[]⟩), rfl, fun _ => rfl, .inl rfl, by decide, fun i hi => absurd hi (by omega)⟩
  · simp [Value.cells] at hcs
    obtain ⟨rfl, rfl, rfl⟩ := hcs
    have hle : len ≤ m := by rw [hmm]; split <;> omega
    have hT : ∀ i, ∃ s : Nat → ByteArray × ByteArray × ByteArray, i < len → ∀ r, r < 3 → w.cell? (a.add (i * 9 + (r * 3 + 0))) = some (.string (s r).1) ∧ w.cell? (a.add (i * 9 + (r * 3 + 1))) = some (.string (s r).2.1) ∧ w.cell? (a.add (i * 9 + (r * 3 + 2))) = some (.string (s r).2.2) ∧ Mx (s r) := by
      intro i
      by_cases hlt : i < len
      · obtain ⟨cs', h1, h2⟩ := hi i (by omega)
        rw [cells_tri] at h1
        obtain ⟨S, hS⟩ := tri_cells h1 h2
        refine ⟨S, fun _ r hr => ?_⟩
        have k := hS r hr
        rw [add_add, add_add, add_add] at k
        exact k
      · exact ⟨fun _ => (⟨#[]⟩, ⟨#[]⟩, ⟨#[]⟩), fun k => absurd k hlt⟩
    obtain ⟨U, hU⟩ := Classical.axiomOfChoice hT
    have hcap : len ≤ 9223372036854775807 := Nat.le_trans hl (Nat.le_trans hm mx_len)
    by_cases h0 : len = 0
    · subst h0
      exact ⟨some a, 0, cap, fun j => U (j / 3) (j % 3), rfl, fun _ => rfl, .inl rfl, by decide, fun i hi => absurd hi (by omega)⟩
    · obtain ⟨b, o, spot⟩ := a
      have h00 := (hU 0 (by omega) 0 (by decide)).1
      have hspot : spot = none := by simpa [Addr.add] using World.cell?_spot h00
      subst hspot
      refine ⟨some ⟨b, o, none⟩, len, cap, fun j => U (j / 3) (j % 3), rfl, fun k => (by cases k), .inr ⟨b, o, rfl, fun j hj => ?_⟩, hcap, fun j hj => (hU (j / 3) (by omega) (j % 3) (by omega)).2.2.2⟩
      obtain ⟨c0, c1, c2, _⟩ := hU (j / 3) (by omega) (j % 3) (by omega)
      rw [Addr.add_mid] at c0 c1 c2
      rw [show o + j * 3 = o + (j / 3 * 9 + (j % 3 * 3 + 0)) by omega]
      refine ⟨c0, ?_, ?_⟩
      · rw [show o + (j / 3 * 9 + (j % 3 * 3 + 0)) + 1 = o + (j / 3 * 9 + (j % 3 * 3 + 1)) by omega]; exact c1
      · rw [show o + (j / 3 * 9 + (j % 3 * 3 + 0)) + 2 = o + (j / 3 * 9 + (j % 3 * 3 + 2)) by omega]; exact c2
end
end Go.Proofs.YthkkdepppjiaeaaGreatDoor
