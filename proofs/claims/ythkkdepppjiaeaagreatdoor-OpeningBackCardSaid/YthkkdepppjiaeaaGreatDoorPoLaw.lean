/- A PART OF THE PROOF, JOINED OUT OF 3 TEXTS. -/
import Derived.Test.YthkkdepppjiaeaaGreatDoorPnLaw
import Derived.Test.YthkkdepppjiaeaaGreatDoorRows
import Derived.ProofKit
import Derived.OpenShut
import Derived.LaidMore
import Derived.Lay
import Derived.Stop.Joined
import Derived.Stop.LaidErr
import Derived.HandedShaped
import Derived.Lib.LaidTab
import Derived.Lib.SmallJoins
import Derived.Test.YthkkdepppjiaeaaGreatDoorChecked
import Derived.JoinedOf
import Derived.KernelRfl
/- From the rows' own conditions to the walks' contracts: the listed table, the world's shape, the witness, a vector opened and shut. -/
namespace Go.Proofs.YthkkdepppjiaeaaGreatDoor
open Go.ChangeShapes Go.WideShapes Go.ChangeAt Go.ChangeMaps Go.RowKit Go.Deep

theorem own : ownKnob Tryz.prog.godebug = none := by kernel_rfl

/-- What every row of this seat lists. -/
abbrev laidL : List (String × DataW Unit) := [("math/bits.deBruijn32tab", Rows.laid_math_bits_deBruijn32tab), ("math/bits.deBruijn64tab", Rows.laid_math_bits_deBruijn64tab), ("internal/strconv.uint64pow10", Rows.laid_internal_strconv_uint64pow10), ("strconv.ErrRange", Rows.laid_strconv_ErrRange), ("strconv.ErrSyntax", Rows.laid_strconv_ErrSyntax)]

theorem laid_pow10 : (Rows.laid_internal_strconv_uint64pow10 : DataW Unit) = Lib.tabData .u64 Lib.pow10Tab := by kernel_rfl
theorem env_of_laid {W : World} (h : laidMetH Tryz.prog laidL W) (hs : W.ShapedOpen Tryz.prog) : Env W := by
  rw [MakeChecks.laidMetH_plain _ _ _ (by kernel_rfl)] at h
  have h3 := h.tail.tail
  rw [laid_pow10] at h3
  exact ⟨Lib.tabIs_of_head (g := 0) (t := 257) (e := 165) (n := 20) (by kernel_rfl) (by kernel_rfl) (by kernel_rfl) (by kernel_rfl) (by kernel_rfl) (by kernel_rfl) h3, hs⟩

/-- The plain wrap, the world's shape kept, one condition more. -/
theorem handed_and_shaped {H : Type} {enc : TypeId × Value → H} {a : Assume} {C : Checked} {os : Os} {f : FuncId} {fn : Func} {s : ChangeSpec} {conds : List PathCond} {apart fresh handsOn again : Bool} {X : World → Array Value → Prop}
    (hX : ∀ (w w' : World) (args : Array Value), w.heap = w'.heap → X w args → X w' args)
    (own : ownKnob C.prog.godebug = none) (started : os.Started) (noInit : C.prog.inits.idxOf? f = none) (hfn : C.prog.funcs[f]? = some fn)
    (witness : ∃ (w : World) (tape : Tape) (i : Input), w.os = os ∧ (w.forCall tape i).Shaped C.prog ∧ i.vars = [] ∧ Input.okWide C.prog (w.forCall tape i) .any w.heap.size f i ∧
      ((s.pre enc C.prog fn conds apart (w.forCall tape i).memory i.args ∧ X (w.forCall tape i).memory i.args) ∧ sizedMet enc C.prog fn (OpenSpec.ofChange s) apart (w.forCall tape i).memory i.args) ∧ a.holds C.prog (lone (Frame.enter C.prog f i.args .normal) [] (w.forCall tape i)))
    (contract : ∀ (W : World) (base : Nat) (args : Array Value) (ds gs : List (DataW H)) (before : List MemPlace),
      (∀ (j : Nat) t v, fn.params[j]? = some t → args[j]? = some v → Value.okWide C.prog W .any base t v) →
      DataW.Whole enc C.prog fn.params.toList s.vars apart W args.toList ds gs before →
      X W args → W.ShapedOpen C.prog →
      Calls C.prog f args W fun e W' => ∃ v, e = .returned v ∧ s.post enc C.prog fn apart fresh handsOn again W args v W') :
    ReturnsInHanded a C os f .any (fun w args => (s.pre enc C.prog fn conds apart w args ∧ X w args) ∧ sizedMet enc C.prog fn (OpenSpec.ofChange s) apart w args) (s.post enc C.prog fn apart fresh handsOn again) := by
  refine returnsInHanded_of_calls own started noInit witness ?_
  intro w tape i _ hsh _ hok hpre hholds
  obtain ⟨_, _, _, fn', hfn', _, _, _, _, hval⟩ := hok
  have e : fn' = fn := Option.some.inj (hfn'.symm.trans hfn)
  subst e
  obtain ⟨⟨⟨ds, gs, before, hw, hc⟩, hx⟩, hz⟩ := hpre
  have hw' := DataW.Whole.of_heap (w' := w.forCall tape i) (by rfl) hw
  refine (contract (w.forCall tape i) w.heap.size i.args ds gs before hval hw' (hX _ _ _ (by rfl) hx) hsh).mono fun e W' ⟨v, he, hp⟩ => ?_
  subst he
  exact ChangeSpec.post_blind hp

theorem one_vec : oneCellFields Tryz.prog #[{ name := "X", type := 22, offset := 0, embedded := false, tag := "", pkgPath := "", byteOffset := 0 }, { name := "Y", type := 22, offset := 1, embedded := false, tag := "", pkgPath := "", byteOffset := 16 }, { name := "Z", type := 22, offset := 2, embedded := false, tag := "", pkgPath := "", byteOffset := 32 }] = true := by kernel_rfl
theorem cells_vec : Tryz.prog.cellsOf 24 = 3 := by kernel_rfl

theorem mx_len : maxLen ≤ 9223372036854775807 := by decide
theorem len_mx : 9223372036854775807 ≤ maxLen := by decide

section
variable {H : Type} {enc : TypeId × Value → H} {w : World} {base : Nat} {sp : Nat → Bool} {held : Bool}

set_option maxRecDepth 100000 in
theorem open_vec {r : Reach} {b0 : Nat} {v : Value} {d : DataW H} {p : List MemPlace} (hv : Value.okWide Tryz.prog w r b0 24 v) (h : DataW.Trod enc Tryz.prog w base sp held 24 v d p) :
    ∃ a0 a1 a2 : ByteArray, v = .agg #[.string a0, .string a1, .string a2] ∧ d = .agg [.lit (.string a0.data.toList), .lit (.string a1.data.toList), .lit (.string a2.data.toList)] ∧ p = [] ∧ Mx (a0, a1, a2) := by
  obtain ⟨v0, v1, v2, y0, y1, y2, n, rfl, rfl, rfl, h0, h1, h2⟩ := Joins.open_agg3 Tryz.underlying24 one_vec cells_vec hv h
  obtain ⟨s0, e0, rfl, k0⟩ := DataW.trod_string Tryz.underlying22 h0
  obtain ⟨s1, e1, rfl, k1⟩ := DataW.trod_string Tryz.underlying22 h1
  obtain ⟨s2, e2, rfl, k2⟩ := DataW.trod_string Tryz.underlying22 h2
  obtain rfl := (List.cons.inj e0).1
  obtain rfl := (List.cons.inj e1).1
  obtain rfl := (List.cons.inj e2).1
  exact ⟨s0, s1, s2, rfl, rfl, rfl, Nat.le_trans k0 mx_len, Nat.le_trans k1 mx_len, Nat.le_trans k2 mx_len⟩

theorem shut_vec {a0 a1 a2 : ByteArray} (h : Mx (a0, a1, a2)) : DataW.Trod enc Tryz.prog w base sp held 24 (.agg #[.string a0, .string a1, .string a2]) (.agg [.lit (.string a0.data.toList), .lit (.string a1.data.toList), .lit (.string a2.data.toList)]) [] := by
  have one : ∀ {s : ByteArray}, s.size ≤ 9223372036854775807 → ∃ n, DataW.trod enc Tryz.prog w base sp held n 22 [.string s] = some (.lit (.string s.data.toList), []) := by
    intro s hs
    have := shut_string (enc := enc) (w := w) (base := base) (sp := sp) (held := held) Tryz.underlying22 (Nat.le_trans hs len_mx)
    exact this
  exact Joins.shut_agg3 Tryz.underlying24 one_vec cells_vec (one h.1) (one h.2.1) (one h.2.2)
end
end Go.Proofs.YthkkdepppjiaeaaGreatDoor

/- From the rows' own conditions: a text opened and shut; the world that meets the condition. -/
namespace Go.Proofs.YthkkdepppjiaeaaGreatDoor
open Go.ChangeShapes Go.WideShapes Go.ChangeAt Go.ChangeMaps Go.RowKit Go.Deep

theorem laid_met {os : Os} {args : Array Value} : laidMetH Tryz.prog laidL ((World.laidAll Tryz.prog os laidL).forCall (fun _ _ => 0) ⟨#[], args, []⟩).memory := by
  rw [MakeChecks.laidMetH_plain _ _ _ (by kernel_rfl)]; exact laidMet_laidAll _ (by kernel_rfl) (by kernel_rfl)
theorem laid_shaped {os : Os} {args : Array Value} : ((World.laidAll Tryz.prog os laidL).forCall (fun _ _ => 0) ⟨#[], args, []⟩).Shaped Tryz.prog :=
  World.shaped_of_ZipB (by kernel_rfl) (by kernel_rfl)

section
variable {H : Type} {enc : TypeId × Value → H} {w : World} {base : Nat} {sp : Nat → Bool} {held : Bool}
set_option maxRecDepth 100000 in
theorem open_rat {r : Reach} {b0 : Nat} {v : Value} {d : DataW H} {p : List MemPlace} (hv : Value.okWide Tryz.prog w r b0 22 v) (h : DataW.Trod enc Tryz.prog w base sp held 22 v d p) :
    ∃ a : ByteArray, v = .string a ∧ d = .lit (.string a.data.toList) ∧ p = [] ∧ a.size ≤ 9223372036854775807 := by
  obtain ⟨s, e1, e2, e3, e4⟩ := open_string Tryz.underlying22 hv h
  exact ⟨s, e1, e2, e3, Nat.le_trans e4 mx_len⟩
set_option maxRecDepth 100000 in
theorem shut_rat {s : ByteArray} (h : s.size ≤ 9223372036854775807) : DataW.Trod enc Tryz.prog w base sp held 22 (.string s) (.lit (.string s.data.toList)) [] :=
  shut_string Tryz.underlying22 (Nat.le_trans h len_mx)
end
end Go.Proofs.YthkkdepppjiaeaaGreatDoor

/- The closed facts of the cards, one by one (each is a check of its own for the kernel: less memory than one check for all). -/
namespace Go.Proofs.YthkkdepppjiaeaaGreatDoor
open Go.ChangeShapes Go.WideShapes

theorem cf_laid : laidOutB Tryz.prog = true := by kernel_rfl
theorem cf_maps : mapsRowed Tryz.prog = true := by kernel_rfl
theorem cf_stops : (Tryz.prog.stops == []) = true := by kernel_rfl
theorem cf_knobs : (Tryz.prog.stopKnobs == []) = true := by kernel_rfl
theorem cf_heard : Tryz.prog.stopsHeard = true := by kernel_rfl
theorem cf_enter : Tryz.prog.mayEnter = true := by kernel_rfl
theorem cf_keys : (Rows.openingRisesRow.plainKeys == Tryz.prog.plainKeys) = true := by kernel_rfl
theorem cf_lift : (Rows.openingRisesRow.lifted == Tryz.prog.liftsFinal) = true := by kernel_rfl
theorem cf_make : (Tryz.prog.make == some Rows.openingRisesRow.make) = true := by kernel_rfl

theorem joined_of {P : Program} {f : FuncId} {fn : Func} {s : ChangeSpec} {c : OpenClaim}
    (h1 : c.wf (OpenSpec.ofChange s) = true) (h2 : laidOutB P = true) (h3 : mapsRowed P = true) (h4 : fn.params.all (P.readableRec ·) = true) (h5 : namedTie P c.named s.vars = true)
    (h6 : (c.stops == []) = true) (h7 : (P.stops == []) = true) (h8 : (c.knobs == []) = true) (h9 : (P.stopKnobs == []) = true)
    (h10 : ((c.inPlace == P.inPlace f) && (c.unfollowed == P.unfollowed f) && (c.recurses == P.recurses f) && (c.named == P.varsNamed f)) = true)
    (h11 : ((c.maps == (fn.params.toList ++ s.plain.varTypes P).any (P.mapsRec ·)) && (c.ifaces == (fn.params.toList ++ s.plain.varTypes P).any (P.ifacesRec ·)) && (c.mapsOut == P.mapsAmong fn.resultTypes.toList) &&
      (c.loops == (fn.params.toList ++ s.plain.varTypes P).any (P.loopsFrom ·)) && (c.wideKeys == (fn.params.toList ++ s.plain.varTypes P ++ fn.resultTypes.toList).any (P.wideKeysFrom ·)) &&
      s.vars.all (P.varReadable ·) && fn.resultTypes.all (fun t => P.readableRec t && decide (t < P.types.size)) && (c.ifacesOut == fn.resultTypes.toList.any (P.ifacesRec ·)) && (c.loopsOut == fn.resultTypes.toList.any (P.loopsFrom ·))) = true)
    (h12 : (c.plainKeys == P.plainKeys) = true) (h13 : c.shortTexts.isNone = true) (h14 : P.stopsHeard = true) (h15 : P.mayEnter = true) (h16 : (c.lifted == P.liftsFinal) = true) (h17 : (P.make == some c.make) = true)
    (h18 : ((c.kinds == (if c.domain.isEmpty then [] else fn.params.toList.map fun t => match P.underlying t with | some (.int k) => some k | _ => none)) && (c.pinned == c.pinnedBy) &&
      (c.veiled == (fn.params.toList ++ s.plain.varTypes P ++ fn.resultTypes.toList).any (P.veiledRec ·)) && c.veiledFits P fn.params.toList (fn.params.toList ++ s.plain.varTypes P ++ fn.resultTypes.toList)) = true) :
    joinedFacts P f fn s c = true := by
  simp only [Bool.and_eq_true] at h10 h11 h18
  obtain ⟨⟨⟨a1, a2⟩, a3⟩, a4⟩ := h10
  obtain ⟨⟨⟨⟨⟨⟨⟨⟨b1, b2⟩, b3⟩, b4⟩, b5⟩, b6⟩, b7⟩, b8⟩, b9⟩ := h11
  obtain ⟨⟨⟨c1, c2⟩, c3⟩, c4⟩ := h18
  unfold joinedFacts
  rw [h1, h2, h3, h4, h5, h6, h7, h8, h9, a1, a2, a3, a4, b1, b2, b3, b4, b5, b6, b7, b8, b9, h12, h13, h14, h15, h16, h17]
  exact Bool.and_eq_true_iff.mpr ⟨Bool.and_eq_true_iff.mpr ⟨Bool.and_eq_true_iff.mpr ⟨Bool.and_eq_true_iff.mpr ⟨rfl, c1⟩, c2⟩, c3⟩, c4⟩
end Go.Proofs.YthkkdepppjiaeaaGreatDoor
