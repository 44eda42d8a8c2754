/- Proved: garboardlaw11.VectorRanges returns true at every input, and each argument reads afterwards as it read before. Conditions: those of the given card alone (the five listed package-level variables hold, as the call begins, what the program's text lays in them). -/
import Derived.Test.YtgbabmkclojgeaaGreatDoorReRange
import Derived.Test.YtgbabmkclojgeaaGreatDoorPoLaw
import Derived.Carry
import Derived.Test.YtgbabmkclojgeaaGreatDoorTie
import Derived.Test.YtgbabmkclojgeaaGreatDoorCards
import Derived.SevenTiedAt
namespace Go.Proofs.YtgbabmkclojgeaaGreatDoor
open Go.ChangeShapes Go.WideShapes Go.ChangeAt Go.ChangeMaps Go.RowKit

set_option maxRecDepth 100000 in
theorem vectorRanges_lifted (os : Os) (started : os.Started) (H : Type) (enc : TypeId × Value → H) :
    ReturnsInHanded {} Tryz.checked os 7 .any (fun w args => (Rows.vectorRangesSpec.pre enc Tryz.prog Tryz.f7 [] false w args ∧ laidMetH Tryz.prog laidL w) ∧ sizedMet enc Tryz.prog Tryz.f7 (OpenSpec.ofChange Rows.vectorRangesSpec) false w args)
      (Rows.vectorRangesSpec.post enc Tryz.prog Tryz.f7 false true false false) := by
  refine handed_and_shaped (C := Tryz.checked) (X := fun w _ => laidMetH Tryz.prog laidL w) (fun _ _ _ hh h => h.of_heap hh) own started (by kernel_rfl) Tryz.func7
    (ChangeSpec.witness_shaped (enc := enc) (C := Tryz.checked) (os := os) (X := fun w _ => laidMetH Tryz.prog laidL w) false (World.laidAll Tryz.prog os laidL) #[.slice none 0 0, .agg #[.string ⟨#[]⟩, .string ⟨#[]⟩, .string ⟨#[]⟩]] 8 (World.laidAll_os _ _ _)
      laid_shaped (by kernel_rfl) (by kernel_rfl) (by kernel_rfl)
      laid_met) ?_
  intro W base args ds gs before hval0 hW hL hs
  have hval : ∀ (j : Nat) t v, Tryz.f7.params[j]? = some t → args[j]? = some v → Value.okWide Tryz.prog W .any base t v := hval0
  have hW' := hW
  obtain ⟨p, q, hA0, hV, rfl, hfz, hnd⟩ := hW
  have hA : DataW.TrodAll enc Tryz.prog W 0 (fun _ => true) true Tryz.f7.params.toList args.toList ds p := hA0
  rw [Tryz.params7] at hA hval
  obtain ⟨v0, v1, d0, d1, p0, p1, rfl, rfl, rfl, h0, h1⟩ := trodAll_two hA
  obtain ⟨rfl, rfl⟩ := trodVars_none hV
  have h0k := h0
  have hlt0 : ∀ x ∈ p0, x.block < W.heap.size := fun x hx => by simpa using hW'.lt x (by simp [hx])
  obtain ⟨aA, an, ac, aT, rfl, maa, mal, man, ma⟩ := open_vecs (hval 0 _ _ rfl rfl) h0
  obtain ⟨b0, b1, b2, rfl, rfl, rfl, mb⟩ := open_vec (hval 1 _ _ rfl rfl) h1
  refine (la_ranges aA an ac aT b0 b1 b2 W (env_of_laid hL hs) maa mal man ma mb).mono fun e W' ⟨he, hw⟩ => ?_
  subst he
  refine ⟨_, rfl, _, _, _, [], (p0 ++ []), [], hW', ?_, ?_, rfl, hw.frame _, fun h => by cases h⟩
  · exact trodAll_mk1 (shut_bool Tryz.underlying4 true)
  · exact trodAll_mk2 (Below.trod cf_laid (by kernel_rfl) (of_decide_eq_true (by kernel_rfl)) h0k hw hlt0) (shut_vec mb)

theorem vectorRanges_named : Tryz.prog.funcNamed Rows.vectorRangesRow.func = some 7 := by kernel_rfl
theorem vectorRanges_reach : ((Rows.vectorRangesRow.inPlace == Tryz.prog.inPlace 7) && (Rows.vectorRangesRow.unfollowed == Tryz.prog.unfollowed 7) && (Rows.vectorRangesRow.recurses == Tryz.prog.recurses 7) && (Rows.vectorRangesRow.named == Tryz.prog.varsNamed 7)) = true := by kernel_rfl
theorem vectorRanges_joined : joinedFacts Tryz.prog 7 Tryz.f7 Rows.vectorRangesSpec Rows.vectorRangesRow = true :=
  joined_of (by kernel_rfl) cf_laid cf_maps (by kernel_rfl) (by kernel_rfl) rfl cf_stops rfl cf_knobs vectorRanges_reach (by kernel_rfl) cf_keys rfl cf_heard cf_enter cf_lift cf_make (by kernel_rfl)
theorem vectorRanges_inst : Tryz.f7.isInstance Tryz.prog Rows.vectorRangesRow.origin Rows.vectorRangesRow.targs := of_decide_eq_true (by kernel_rfl)
theorem vectorRanges_wrap : Tryz.f7.isWrapper Tryz.prog Rows.vectorRangesRow.wrapper Rows.vectorRangesRow.mainSum := by
  unfold Func.isWrapper
  first | (rw [if_pos (by decide +kernel)]; kernel_rfl) | (rw [if_neg (by decide +kernel)]; exact ⟨rfl, rfl⟩)
theorem vectorRanges_row : Rows.VectorRangesSaid :=
  OpenClaim.holds_of_wide 7 Tryz.f7 rfl rfl rfl rfl rfl rfl rfl ⟨rfl, rfl, rfl, rfl, rfl⟩ rfl rfl rfl rfl rfl vectorRanges_named Tryz.func7 vectorRanges_joined vectorRanges_inst vectorRanges_wrap
    (fun os started H enc _ => vectorRanges_lifted os started H enc)

theorem vectorRanges_wf : Rows.vectorRangesRow.wfByText (OpenSpec.ofChange Rows.vectorRangesSpec) = true := by kernel_rfl
theorem vectorRanges_main : Tryz.prog.mainIs = some (true, "f6834b59d3a32dc1caebcdd56e5cc166c0610937adb86b9103e646233883aa4a".toList) := by kernel_rfl
theorem vectorRanges_goes : false = Rows.vectorRangesRow.goesBy Tryz.prog := by kernel_rfl
theorem vectorRanges_looks : true = Tryz.prog.looks [] := by kernel_rfl
theorem vectorRanges_wants : ([34, 28].all fun u => !Tryz.prog.wantsStandIn u) = true := by kernel_rfl
theorem vectorRanges_holds : Rows.VectorRangesCardSaid :=
  Claim7.holds_tied_plain_at .later [] [.data, .data, .data, .sentinel, .sentinel] true (true, "f6834b59d3a32dc1caebcdd56e5cc166c0610937adb86b9103e646233883aa4a") true
    vectorRanges_row (fun _ h => by cases h) vectorRanges_wf (fun _ h => by cases h) vectorRanges_row_tie rfl ⟨rfl, rfl⟩ vectorRanges_main rfl
    (fun f fn hf hfn => by
      obtain rfl : f = 7 := Option.some.inj (Eq.trans (Eq.symm vectorRanges_named) hf) |>.symm
      obtain rfl : fn = Tryz.f7 := (Option.some.inj (Tryz.func7.symm.trans hfn)).symm
      exact ⟨vectorRanges_looks, fun j t ht => by
        rw [Tryz.params7] at ht
        have hm : t ∈ [34, 28] := by simpa using Array.mem_of_getElem? ht
        exact (show Tryz.prog.wantsStandIn t = false by simpa using List.all_eq_true.1 vectorRanges_wants t hm)⟩)
    vectorRanges_goes
#print axioms vectorRanges_holds
end Go.Proofs.YtgbabmkclojgeaaGreatDoor
