/- Proved: garboardlaw16.AttitudeUnit returns true at every input, and each argument reads afterwards as it read before. Conditions: those of the given card alone (the five listed package-level variables hold, as the call begins, what the program's text lays in them). -/
import Derived.Test.YtgbabmkclojgeaaGreatDoorQwAttitude
import Derived.Test.YtgbabmkclojgeaaGreatDoorPoLaw
import Derived.Carry
import Derived.Test.YtgbabmkclojgeaaGreatDoorTie
import Derived.Test.YtgbabmkclojgeaaGreatDoorCards
import Derived.SevenTiedAt
namespace Go.Proofs.YtgbabmkclojgeaaGreatDoor
open Go.ChangeShapes Go.WideShapes Go.ChangeAt Go.ChangeMaps Go.RowKit

set_option maxRecDepth 100000 in
theorem attitudeUnit_lifted (os : Os) (started : os.Started) (H : Type) (enc : TypeId × Value → H) :
    ReturnsInHanded {} Tryz.checked os 3 .any (fun w args => (Rows.attitudeUnitSpec.pre enc Tryz.prog Tryz.f3 [] false w args ∧ laidMetH Tryz.prog laidL w) ∧ sizedMet enc Tryz.prog Tryz.f3 (OpenSpec.ofChange Rows.attitudeUnitSpec) false w args)
      (Rows.attitudeUnitSpec.post enc Tryz.prog Tryz.f3 false true false false) := by
  refine handed_and_shaped (C := Tryz.checked) (X := fun w _ => laidMetH Tryz.prog laidL w) (fun _ _ _ hh h => h.of_heap hh) own started (by kernel_rfl) Tryz.func3
    (ChangeSpec.witness_shaped (enc := enc) (C := Tryz.checked) (os := os) (X := fun w _ => laidMetH Tryz.prog laidL w) false (World.laidAll Tryz.prog os laidL) #[.agg #[.string ⟨#[]⟩, .string ⟨#[]⟩]] 8 (World.laidAll_os _ _ _)
      laid_shaped (by kernel_rfl) (by kernel_rfl) (by kernel_rfl)
      laid_met) ?_
  intro W base args ds gs before hval0 hW hL hs
  have hval : ∀ (j : Nat) t v, Tryz.f3.params[j]? = some t → args[j]? = some v → Value.okWide Tryz.prog W .any base t v := hval0
  have hW' := hW
  obtain ⟨p, q, hA0, hV, rfl, hfz, hnd⟩ := hW
  have hA : DataW.TrodAll enc Tryz.prog W 0 (fun _ => true) true Tryz.f3.params.toList args.toList ds p := hA0
  rw [Tryz.params3] at hA hval
  obtain ⟨v0, d0, rfl, rfl, h0⟩ := trodAll_one hA
  obtain ⟨rfl, rfl⟩ := trodVars_none hV
  obtain ⟨a0, a1, rfl, rfl, rfl, ma⟩ := open_att (hval 0 _ _ rfl rfl) h0
  refine (la_unit a0 a1 W (env_of_laid hL hs) ma).mono fun e W' ⟨he, hw⟩ => ?_
  subst he
  refine ⟨_, rfl, _, _, _, [], [], [], hW', ?_, ?_, rfl, hw.frame _, fun h => by cases h⟩
  · exact trodAll_mk1 (shut_bool Tryz.underlying4 true)
  · exact trodAll_mk1 (shut_att ma)

theorem attitudeUnit_named : Tryz.prog.funcNamed Rows.attitudeUnitRow.func = some 3 := by kernel_rfl
theorem attitudeUnit_reach : ((Rows.attitudeUnitRow.inPlace == Tryz.prog.inPlace 3) && (Rows.attitudeUnitRow.unfollowed == Tryz.prog.unfollowed 3) && (Rows.attitudeUnitRow.recurses == Tryz.prog.recurses 3) && (Rows.attitudeUnitRow.named == Tryz.prog.varsNamed 3)) = true := by kernel_rfl
theorem attitudeUnit_joined : joinedFacts Tryz.prog 3 Tryz.f3 Rows.attitudeUnitSpec Rows.attitudeUnitRow = true :=
  joined_of (by kernel_rfl) cf_laid cf_maps (by kernel_rfl) (by kernel_rfl) rfl cf_stops rfl cf_knobs attitudeUnit_reach (by kernel_rfl) cf_keys rfl cf_heard cf_enter cf_lift cf_make (by kernel_rfl)
theorem attitudeUnit_inst : Tryz.f3.isInstance Tryz.prog Rows.attitudeUnitRow.origin Rows.attitudeUnitRow.targs := of_decide_eq_true (by kernel_rfl)
theorem attitudeUnit_wrap : Tryz.f3.isWrapper Tryz.prog Rows.attitudeUnitRow.wrapper Rows.attitudeUnitRow.mainSum := by
  unfold Func.isWrapper
  first | (rw [if_pos (by decide +kernel)]; kernel_rfl) | (rw [if_neg (by decide +kernel)]; exact ⟨rfl, rfl⟩)
theorem attitudeUnit_row : Rows.AttitudeUnitSaid :=
  OpenClaim.holds_of_wide 3 Tryz.f3 rfl rfl rfl rfl rfl rfl rfl ⟨rfl, rfl, rfl, rfl, rfl⟩ rfl rfl rfl rfl rfl attitudeUnit_named Tryz.func3 attitudeUnit_joined attitudeUnit_inst attitudeUnit_wrap
    (fun os started H enc _ => attitudeUnit_lifted os started H enc)

theorem attitudeUnit_wf : Rows.attitudeUnitRow.wfByText (OpenSpec.ofChange Rows.attitudeUnitSpec) = true := by kernel_rfl
theorem attitudeUnit_main : Tryz.prog.mainIs = some (true, "f6834b59d3a32dc1caebcdd56e5cc166c0610937adb86b9103e646233883aa4a".toList) := by kernel_rfl
theorem attitudeUnit_goes : false = Rows.attitudeUnitRow.goesBy Tryz.prog := by kernel_rfl
theorem attitudeUnit_looks : true = Tryz.prog.looks [] := by kernel_rfl
theorem attitudeUnit_wants : ([24].all fun u => !Tryz.prog.wantsStandIn u) = true := by kernel_rfl
theorem attitudeUnit_holds : Rows.AttitudeUnitCardSaid :=
  Claim7.holds_tied_plain_at .later [] [.data, .data, .data, .sentinel, .sentinel] true (true, "f6834b59d3a32dc1caebcdd56e5cc166c0610937adb86b9103e646233883aa4a") true
    attitudeUnit_row (fun _ h => by cases h) attitudeUnit_wf (fun _ h => by cases h) attitudeUnit_row_tie rfl ⟨rfl, rfl⟩ attitudeUnit_main rfl
    (fun f fn hf hfn => by
      obtain rfl : f = 3 := Option.some.inj (Eq.trans (Eq.symm attitudeUnit_named) hf) |>.symm
      obtain rfl : fn = Tryz.f3 := (Option.some.inj (Tryz.func3.symm.trans hfn)).symm
      exact ⟨attitudeUnit_looks, fun j t ht => by
        rw [Tryz.params3] at ht
        have hm : t ∈ [24] := by simpa using Array.mem_of_getElem? ht
        exact (show Tryz.prog.wantsStandIn t = false by simpa using List.all_eq_true.1 attitudeUnit_wants t hm)⟩)
    attitudeUnit_goes
#print axioms attitudeUnit_holds
end Go.Proofs.YtgbabmkclojgeaaGreatDoor
