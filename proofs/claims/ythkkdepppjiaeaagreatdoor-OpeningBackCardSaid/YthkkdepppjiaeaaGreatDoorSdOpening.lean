/- An opening, a position and a slice of openings opened. -/
import Derived.Test.YthkkdepppjiaeaaGreatDoorReRange
import Derived.Test.YthkkdepppjiaeaaGreatDoorSbOpening
import Derived.ChangeArms
import Derived.OpenShut
namespace Go.Proofs.YthkkdepppjiaeaaGreatDoor
open Go.ChangeShapes Go.WideShapes Go.ChangeAt Go.ChangeMaps Go.RowKit Go.Deep

theorem cells_opn : Tryz.prog.cellsOf 26 = 7 := by kernel_rfl
theorem cells_pos : Tryz.prog.cellsOf 32 = 4 := by kernel_rfl
theorem cells_atq : Tryz.prog.cellsOf 28 = 2 := by kernel_rfl
theorem cells_ivq : Tryz.prog.cellsOf 30 = 2 := by kernel_rfl
theorem cells_intq : Tryz.prog.cellsOf 3 = 1 := by kernel_rfl

section
variable {H : Type} {enc : TypeId × Value → H} {w : World} {base : Nat} {sp : Nat → Bool} {held : Bool}
set_option maxRecDepth 100000 in
theorem vec_strs3 {n : Nat} {cs : List Value} {x : DataW H × List MemPlace} (hl : cs.length = 3) (h : DataW.trod enc Tryz.prog w base sp held n 24 cs = some x) :
    ∃ s : ByteArray × ByteArray × ByteArray, cs = [.string s.1, .string s.2.1, .string s.2.2] ∧ Mx s := by
  obtain ⟨ys, n', hn', hy, hlen, hyl, hf⟩ := DataW.trod_struct Tryz.underlying24 h
  obtain ⟨v0, v1, v2, rfl⟩ : ∃ v0 v1 v2, cs = [v0, v1, v2] := by
    match cs, hl with
    | [v0, v1, v2], _ => exact ⟨_, _, _, rfl⟩
  obtain ⟨y0, y1, y2, rfl⟩ : ∃ y0 y1 y2, ys = [y0, y1, y2] := by
    match ys, hyl with
    | [y0, y1, y2], _ => exact ⟨_, _, _, rfl⟩
  have k0 : DataW.trod enc Tryz.prog w base sp held n' 22 (List.take (Tryz.prog.cellsOf 22) (List.drop 0 [v0, v1, v2])) = some y0 := hf 0 _ rfl
  have k1 : DataW.trod enc Tryz.prog w base sp held n' 22 (List.take (Tryz.prog.cellsOf 22) (List.drop 1 [v0, v1, v2])) = some y1 := hf 1 _ rfl
  have k2 : DataW.trod enc Tryz.prog w base sp held n' 22 (List.take (Tryz.prog.cellsOf 22) (List.drop 2 [v0, v1, v2])) = some y2 := hf 2 _ rfl
  rw [cells_rat] at k0 k1 k2
  obtain ⟨s0, e0, _, z0⟩ := DataW.trod_string Tryz.underlying22 (show DataW.trod enc Tryz.prog w base sp held n' 22 [v0] = some y0 from k0)
  obtain ⟨s1, e1, _, z1⟩ := DataW.trod_string Tryz.underlying22 (show DataW.trod enc Tryz.prog w base sp held n' 22 [v1] = some y1 from k1)
  obtain ⟨s2, e2, _, z2⟩ := DataW.trod_string Tryz.underlying22 (show DataW.trod enc Tryz.prog w base sp held n' 22 [v2] = some y2 from k2)
  obtain rfl := (List.cons.inj e0).1
  obtain rfl := (List.cons.inj e1).1
  obtain rfl := (List.cons.inj e2).1
  exact ⟨(s0, s1, s2), rfl, Nat.le_trans z0 mx_len, Nat.le_trans z1 mx_len, Nat.le_trans z2 mx_len⟩
set_option maxRecDepth 100000 in
theorem opn_strs {n : Nat} {cs : List Value} {x : DataW H × List MemPlace} (hl : cs.length = 7) (h : DataW.trod enc Tryz.prog w base sp held n 26 cs = some x) :
    ∃ o : Opn, cs = [.int .i64 o.id, .int .i64 o.frm, .int .i64 o.dst, .int .i64 o.kind, .string o.pt.1, .string o.pt.2.1, .string o.pt.2.2] ∧ Mx o.pt := by
  obtain ⟨ys, n', hn', hy, hlen, hyl, hf⟩ := DataW.trod_struct Tryz.underlying26 h
  obtain ⟨v0, v1, v2, v3, v4, v5, v6, rfl⟩ : ∃ v0 v1 v2 v3 v4 v5 v6, cs = [v0, v1, v2, v3, v4, v5, v6] := by
    match cs, hl with
    | [v0, v1, v2, v3, v4, v5, v6], _ => exact ⟨_, _, _, _, _, _, _, rfl⟩
  obtain ⟨y0, y1, y2, y3, y4, rfl⟩ : ∃ y0 y1 y2 y3 y4, ys = [y0, y1, y2, y3, y4] := by
    match ys, hyl with
    | [y0, y1, y2, y3, y4], _ => exact ⟨_, _, _, _, _, rfl⟩
  have k0 : DataW.trod enc Tryz.prog w base sp held n' 3 (List.take (Tryz.prog.cellsOf 3) (List.drop 0 [v0, v1, v2, v3, v4, v5, v6])) = some y0 := hf 0 _ rfl
  have k1 : DataW.trod enc Tryz.prog w base sp held n' 3 (List.take (Tryz.prog.cellsOf 3) (List.drop 1 [v0, v1, v2, v3, v4, v5, v6])) = some y1 := hf 1 _ rfl
  have k2 : DataW.trod enc Tryz.prog w base sp held n' 3 (List.take (Tryz.prog.cellsOf 3) (List.drop 2 [v0, v1, v2, v3, v4, v5, v6])) = some y2 := hf 2 _ rfl
  have k3 : DataW.trod enc Tryz.prog w base sp held n' 3 (List.take (Tryz.prog.cellsOf 3) (List.drop 3 [v0, v1, v2, v3, v4, v5, v6])) = some y3 := hf 3 _ rfl
  have k4 : DataW.trod enc Tryz.prog w base sp held n' 24 (List.take (Tryz.prog.cellsOf 24) (List.drop 4 [v0, v1, v2, v3, v4, v5, v6])) = some y4 := hf 4 _ rfl
  rw [cells_intq] at k0 k1 k2 k3
  rw [cells_vec] at k4
  obtain ⟨s0, e0, _, z0⟩ := DataW.trod_int Tryz.underlying3 (show DataW.trod enc Tryz.prog w base sp held n' 3 [v0] = some y0 from k0)
  obtain ⟨s1, e1, _, z1⟩ := DataW.trod_int Tryz.underlying3 (show DataW.trod enc Tryz.prog w base sp held n' 3 [v1] = some y1 from k1)
  obtain ⟨s2, e2, _, z2⟩ := DataW.trod_int Tryz.underlying3 (show DataW.trod enc Tryz.prog w base sp held n' 3 [v2] = some y2 from k2)
  obtain ⟨s3, e3, _, z3⟩ := DataW.trod_int Tryz.underlying3 (show DataW.trod enc Tryz.prog w base sp held n' 3 [v3] = some y3 from k3)
  obtain ⟨s, e4, hm⟩ := vec_strs3 (show [v4, v5, v6].length = 3 from rfl) (show DataW.trod enc Tryz.prog w base sp held n' 24 [v4, v5, v6] = some y4 from k4)
  obtain rfl := (List.cons.inj e0).1
  obtain rfl := (List.cons.inj e1).1
  obtain rfl := (List.cons.inj e2).1
  obtain rfl := (List.cons.inj e3).1
  refine ⟨⟨s0, s1, s2, s3, s⟩, ?_, hm⟩
  rw [e4]
set_option maxRecDepth 100000 in
theorem open_opn {r : Reach} {b0 : Nat} {v : Value} {d : DataW H} {p : List MemPlace} (hv : Value.okWide Tryz.prog w r b0 26 v) (h : DataW.Trod enc Tryz.prog w base sp held 26 v d p) :
    ∃ o : Opn, v = opV o ∧ Mx o.pt := by
  obtain ⟨cs, rfl, hsz⟩ := okWide_struct Tryz.underlying26 hv
  obtain ⟨fuel, hf⟩ := h
  obtain ⟨o, e, hm⟩ := opn_strs (cs := cs.toList) (by rw [Array.length_toList, hsz, cells_opn]) hf
  refine ⟨o, ?_, hm⟩
  rw [← Array.toArray_toList (xs := cs), e]
  rfl
set_option maxRecDepth 100000 in
theorem open_pos {r : Reach} {b0 : Nat} {v : Value} {d : DataW H} {p : List MemPlace} (hv : Value.okWide Tryz.prog w r b0 32 v) (h : DataW.Trod enc Tryz.prog w base sp held 32 v d p) :
    ∃ a0 a1 l0 l1 : ByteArray, v = .agg #[.string a0, .string a1, .string l0, .string l1] ∧ (a0.size ≤ 9223372036854775807 ∧ a1.size ≤ 9223372036854775807) ∧ l0.size ≤ 9223372036854775807 ∧ l1.size ≤ 9223372036854775807 := by
  obtain ⟨cs, rfl, hsz⟩ := okWide_struct Tryz.underlying32 hv
  obtain ⟨c0, c1, c2, c3, rfl⟩ := Joins.array4 (hsz.trans cells_pos)
  obtain ⟨fuel, hf⟩ := h
  obtain ⟨y0, y1, n, hx, _, h0, h1⟩ := trod_struct2 Tryz.underlying32 hf
  rw [cells_atq] at h0
  rw [cells_ivq] at h1
  have h0 : DataW.trod enc Tryz.prog w base sp held n 28 [c0, c1] = some y0 := h0
  have h1 : DataW.trod enc Tryz.prog w base sp held n 30 [c2, c3] = some y1 := h1
  obtain ⟨x0, x1, m, hy, _, k0, k1⟩ := trod_struct2 Tryz.underlying28 h0
  obtain ⟨x2, x3, m', hy', _, k2, k3⟩ := trod_struct2 Tryz.underlying30 h1
  rw [cells_rat] at k0 k1 k2 k3
  have k0 : DataW.trod enc Tryz.prog w base sp held m 22 [c0] = some x0 := k0
  have k1 : DataW.trod enc Tryz.prog w base sp held m 22 [c1] = some x1 := k1
  have k2 : DataW.trod enc Tryz.prog w base sp held m' 22 [c2] = some x2 := k2
  have k3 : DataW.trod enc Tryz.prog w base sp held m' 22 [c3] = some x3 := k3
  obtain ⟨s0, e0, _, q0⟩ := DataW.trod_string Tryz.underlying22 k0
  obtain ⟨s1, e1, _, q1⟩ := DataW.trod_string Tryz.underlying22 k1
  obtain ⟨s2, e2, _, q2⟩ := DataW.trod_string Tryz.underlying22 k2
  obtain ⟨s3, e3, _, q3⟩ := DataW.trod_string Tryz.underlying22 k3
  obtain rfl := (List.cons.inj e0).1
  obtain rfl := (List.cons.inj e1).1
  obtain rfl := (List.cons.inj e2).1
  obtain rfl := (List.cons.inj e3).1
  exact ⟨s0, s1, s2, s3, rfl, ⟨Nat.le_trans q0 mx_len, Nat.le_trans q1 mx_len⟩, Nat.le_trans q2 mx_len, Nat.le_trans q3 mx_len⟩
set_option maxRecDepth 100000 in
theorem open_opns {r : Reach} {b0 : Nat} {v : Value} {d : DataW H} {p : List MemPlace} (hv : Value.okWide Tryz.prog w r b0 62 v) (h : DataW.Trod enc Tryz.prog w base sp held 62 v d p) :
    ∃ (A : Option Addr) (n c : Nat) (T : Nat → Opn), v = .slice A n c ∧ (A = none → n = 0) ∧ (n = 0 ∨ ∃ b o, A = some ⟨b, o, none⟩ ∧ OpsAt w b o n T) ∧ n ≤ 9223372036854775807 ∧ ∀ i, i < n → Mx (T i).pt := by
  obtain ⟨a0, len, cap, rfl⟩ := okWide_slice Tryz.underlying62 hv
  obtain ⟨fuel, hf⟩ := h
  rcases open_slice Tryz.underlying62 hf with ⟨hcs, hx⟩ | ⟨a, len', cap', m, k, D, Pl, hcs, _, hl, hm, hmm, hx, hi⟩
  · simp [Value.cells] at hcs
    obtain ⟨rfl, rfl, rfl⟩ := hcs
    exact ⟨none, 0, 0, fun _ => ⟨0, 0, 0, 0, (⟨#[]⟩, ⟨#[]⟩, ⟨#[]⟩)⟩, rfl, fun _ => rfl, .inl rfl, by decide, fun i hi => absurd hi (by omega)⟩
  · simp [Value.cells] at hcs
    obtain ⟨rfl, rfl, rfl⟩ := hcs
    have hle : len ≤ m := by rw [hmm]; split <;> omega
    have hT : ∀ i, ∃ s : Opn, i < len → (∀ j, j < 7 → w.cell? (a.add (i * 7 + j)) = [Value.int .i64 s.id, .int .i64 s.frm, .int .i64 s.dst, .int .i64 s.kind, .string s.pt.1, .string s.pt.2.1, .string s.pt.2.2][j]?) ∧ Mx s.pt := by
      intro i
      by_cases hlt : i < len
      · obtain ⟨cs', h1, h2⟩ := hi i (by omega)
        rw [cells_opn] at h1
        obtain ⟨_, hcl, hat⟩ := World.cells?_some h1
        obtain ⟨s, e, hs⟩ := opn_strs hcl h2
        refine ⟨s, fun _ => ⟨fun j hj => ?_, hs⟩⟩
        rw [← add_add, hat j hj, e]
      · exact ⟨⟨0, 0, 0, 0, (⟨#[]⟩, ⟨#[]⟩, ⟨#[]⟩)⟩, fun k => absurd k hlt⟩
    obtain ⟨T, hT⟩ := Classical.axiomOfChoice hT
    have hcap : len ≤ 9223372036854775807 := Nat.le_trans hl (Nat.le_trans hm mx_len)
    by_cases h0 : len = 0
    · subst h0
      exact ⟨some a, 0, cap, T, rfl, fun _ => rfl, .inl rfl, by decide, fun i hi => absurd hi (by omega)⟩
    · obtain ⟨b, o, spot⟩ := a
      have h00 := (hT 0 (by omega)).1 0 (by decide)
      have hspot : spot = none := by simpa [Addr.add] using World.cell?_spot h00
      subst hspot
      refine ⟨some ⟨b, o, none⟩, len, cap, T, rfl, fun k => (by cases k), .inr ⟨b, o, rfl, fun i hi => ?_⟩, hcap, fun i hi => (hT i hi).2⟩
      have g := (hT i hi).1
      have g0 := g 0 (by decide)
      have g1 := g 1 (by decide)
      have g2 := g 2 (by decide)
      have g3 := g 3 (by decide)
      have g4 := g 4 (by decide)
      have g5 := g 5 (by decide)
      have g6 := g 6 (by decide)
      rw [Addr.add_mid] at g0 g1 g2 g3 g4 g5 g6
      exact ⟨g0, by rw [Nat.add_assoc]; exact g1, by rw [Nat.add_assoc]; exact g2, by rw [Nat.add_assoc]; exact g3, by rw [Nat.add_assoc]; exact g4, by rw [Nat.add_assoc]; exact g5, by rw [Nat.add_assoc]; exact g6⟩
end
end Go.Proofs.YthkkdepppjiaeaaGreatDoor
