/- Proved: garboardlaw11.VectorComputes returns true at every input, and each argument reads afterwards as it read before. Conditions: those of the given card alone (the five listed package-level variables hold, as the call begins, what the program's text lays in them). -/
import Derived.Test.YtgbabmkclojgeaaGreatDoorQoLaw
import Derived.Test.YtgbabmkclojgeaaGreatDoorPoLaw
import Derived.Carry
import Derived.Test.YtgbabmkclojgeaaGreatDoorTie
import Derived.Test.YtgbabmkclojgeaaGreatDoorCards
import Derived.SevenTiedAt
namespace Go.Proofs.YtgbabmkclojgeaaGreatDoor
open Go.ChangeShapes Go.WideShapes Go.ChangeAt Go.ChangeMaps Go.RowKit

set_option maxRecDepth 100000 in
theorem vectorComputes_lifted (os : Os) (started : os.Started) (H : Type) (enc : TypeId × Value → H) :
    ReturnsInHanded {} Tryz.checked os 4 .any (fun w args => (Rows.vectorComputesSpec.pre enc Tryz.prog Tryz.f4 [] false w args ∧ laidMetH Tryz.prog laidL w) ∧ sizedMet enc Tryz.prog Tryz.f4 (OpenSpec.ofChange Rows.vectorComputesSpec) false w args)
      (Rows.vectorComputesSpec.post enc Tryz.prog Tryz.f4 false true false false) := by
  refine handed_and_shaped (C := Tryz.checked) (X := fun w _ => laidMetH Tryz.prog laidL w) (fun _ _ _ hh h => h.of_heap hh) own started (by kernel_rfl) Tryz.func4
    (ChangeSpec.witness_shaped (enc := enc) (C := Tryz.checked) (os := os) (X := fun w _ => laidMetH Tryz.prog laidL w) false (World.laidAll Tryz.prog os laidL) #[.agg #[.string ⟨#[]⟩, .string ⟨#[]⟩, .string ⟨#[]⟩], .agg #[.string ⟨#[]⟩, .string ⟨#[]⟩, .string ⟨#[]⟩], .agg #[.string ⟨#[]⟩, .string ⟨#[]⟩, .string ⟨#[]⟩], .string ⟨#[]⟩] 8 (World.laidAll_os _ _ _)
      laid_shaped (by kernel_rfl) (by kernel_rfl) (by kernel_rfl)
      laid_met) ?_
  intro W base args ds gs before hval0 hW hL hs
  have hval : ∀ (j : Nat) t v, Tryz.f4.params[j]? = some t → args[j]? = some v → Value.okWide Tryz.prog W .any base t v := hval0
  have hW' := hW
  obtain ⟨p, q, hA0, hV, rfl, hfz, hnd⟩ := hW
  have hA : DataW.TrodAll enc Tryz.prog W 0 (fun _ => true) true Tryz.f4.params.toList args.toList ds p := hA0
  rw [Tryz.params4] at hA hval
  obtain ⟨v0, v1, v2, v3, d0, d1, d2, d3, p0, p1, p2, p3, rfl, rfl, rfl, h0, h1, h2, h3⟩ := trodAll_four hA
  obtain ⟨rfl, rfl⟩ := trodVars_none hV
  obtain ⟨a0, a1, a2, rfl, rfl, rfl, ma⟩ := open_vec (hval 0 _ _ rfl rfl) h0
  obtain ⟨b0, b1, b2, rfl, rfl, rfl, mb⟩ := open_vec (hval 1 _ _ rfl rfl) h1
  obtain ⟨c0, c1, c2, rfl, rfl, rfl, mc⟩ := open_vec (hval 2 _ _ rfl rfl) h2
  obtain ⟨d, rfl, rfl, rfl, md⟩ := open_rat (hval 3 _ _ rfl rfl) h3
  refine (la_computes a0 a1 a2 b0 b1 b2 c0 c1 c2 d W (env_of_laid hL hs) ma mb mc md).mono fun e W' ⟨he, hw⟩ => ?_
  subst he
  refine ⟨_, rfl, _, _, _, [], [], [], hW', ?_, ?_, rfl, hw.frame _, fun h => by cases h⟩
  · exact trodAll_mk1 (shut_bool Tryz.underlying4 true)
  · exact trodAll_mk4 (shut_vec ma) (shut_vec mb) (shut_vec mc) (shut_rat md)

theorem vectorComputes_named : Tryz.prog.funcNamed Rows.vectorComputesRow.func = some 4 := by kernel_rfl
theorem vectorComputes_reach : ((Rows.vectorComputesRow.inPlace == Tryz.prog.inPlace 4) && (Rows.vectorComputesRow.unfollowed == Tryz.prog.unfollowed 4) && (Rows.vectorComputesRow.recurses == Tryz.prog.recurses 4) && (Rows.vectorComputesRow.named == Tryz.prog.varsNamed 4)) = true := by kernel_rfl
theorem vectorComputes_joined : joinedFacts Tryz.prog 4 Tryz.f4 Rows.vectorComputesSpec Rows.vectorComputesRow = true :=
  joined_of (by kernel_rfl) cf_laid cf_maps (by kernel_rfl) (by kernel_rfl) rfl cf_stops rfl cf_knobs vectorComputes_reach (by kernel_rfl) cf_keys rfl cf_heard cf_enter cf_lift cf_make (by kernel_rfl)
theorem vectorComputes_inst : Tryz.f4.isInstance Tryz.prog Rows.vectorComputesRow.origin Rows.vectorComputesRow.targs := of_decide_eq_true (by kernel_rfl)
theorem vectorComputes_wrap : Tryz.f4.isWrapper Tryz.prog Rows.vectorComputesRow.wrapper Rows.vectorComputesRow.mainSum := by
  unfold Func.isWrapper
  first | (rw [if_pos (by decide +kernel)]; kernel_rfl) | (rw [if_neg (by decide +kernel)]; exact ⟨rfl, rfl⟩)
theorem vectorComputes_row : Rows.VectorComputesSaid :=
  OpenClaim.holds_of_wide 4 Tryz.f4 rfl rfl rfl rfl rfl rfl rfl ⟨rfl, rfl, rfl, rfl, rfl⟩ rfl rfl rfl rfl rfl vectorComputes_named Tryz.func4 vectorComputes_joined vectorComputes_inst vectorComputes_wrap
    (fun os started H enc _ => vectorComputes_lifted os started H enc)

theorem vectorComputes_wf : Rows.vectorComputesRow.wfByText (OpenSpec.ofChange Rows.vectorComputesSpec) = true := by kernel_rfl
theorem vectorComputes_main : Tryz.prog.mainIs = some (true, "f6834b59d3a32dc1caebcdd56e5cc166c0610937adb86b9103e646233883aa4a".toList) := by kernel_rfl
theorem vectorComputes_goes : false = Rows.vectorComputesRow.goesBy Tryz.prog := by kernel_rfl
theorem vectorComputes_looks : true = Tryz.prog.looks [] := by kernel_rfl
theorem vectorComputes_wants : ([28, 22].all fun u => !Tryz.prog.wantsStandIn u) = true := by kernel_rfl
theorem vectorComputes_holds : Rows.VectorComputesCardSaid :=
  Claim7.holds_tied_plain_at .later [] [.data, .data, .data, .sentinel, .sentinel] true (true, "f6834b59d3a32dc1caebcdd56e5cc166c0610937adb86b9103e646233883aa4a") true
    vectorComputes_row (fun _ h => by cases h) vectorComputes_wf (fun _ h => by cases h) vectorComputes_row_tie rfl ⟨rfl, rfl⟩ vectorComputes_main rfl
    (fun f fn hf hfn => by
      obtain rfl : f = 4 := Option.some.inj (Eq.trans (Eq.symm vectorComputes_named) hf) |>.symm
      obtain rfl : fn = Tryz.f4 := (Option.some.inj (Tryz.func4.symm.trans hfn)).symm
      exact ⟨vectorComputes_looks, fun j t ht => by
        rw [Tryz.params4] at ht
        have hm : t ∈ [28, 22] := by simpa using Array.mem_of_getElem? ht
        exact (show Tryz.prog.wantsStandIn t = false by simpa using List.all_eq_true.1 vectorComputes_wants t hm)⟩)
    vectorComputes_goes
#print axioms vectorComputes_holds
end Go.Proofs.YtgbabmkclojgeaaGreatDoor
