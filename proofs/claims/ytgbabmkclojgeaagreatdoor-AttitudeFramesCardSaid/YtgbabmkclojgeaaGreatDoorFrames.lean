/- Proved: garboardlaw16.AttitudeFrames returns true at every input, and each argument reads afterwards as it read before. Conditions: those of the given card alone (the five listed package-level variables hold, as the call begins, what the program's text lays in them). -/
import Derived.Test.YtgbabmkclojgeaaGreatDoorRcWater
import Derived.Test.YtgbabmkclojgeaaGreatDoorQwAttitude
import Derived.Test.YtgbabmkclojgeaaGreatDoorPoLaw
import Derived.Carry
import Derived.Test.YtgbabmkclojgeaaGreatDoorTie
import Derived.Test.YtgbabmkclojgeaaGreatDoorCards
import Derived.SevenTiedAt
namespace Go.Proofs.YtgbabmkclojgeaaGreatDoor
open Go.ChangeShapes Go.WideShapes Go.ChangeAt Go.ChangeMaps Go.RowKit

set_option maxRecDepth 100000 in
theorem attitudeFrames_lifted (os : Os) (started : os.Started) (H : Type) (enc : TypeId × Value → H) :
    ReturnsInHanded {} Tryz.checked os 8 .any (fun w args => (Rows.attitudeFramesSpec.pre enc Tryz.prog Tryz.f8 [] false w args ∧ laidMetH Tryz.prog laidL w) ∧ sizedMet enc Tryz.prog Tryz.f8 (OpenSpec.ofChange Rows.attitudeFramesSpec) false w args)
      (Rows.attitudeFramesSpec.post enc Tryz.prog Tryz.f8 false true false false) := by
  refine handed_and_shaped (C := Tryz.checked) (X := fun w _ => laidMetH Tryz.prog laidL w) (fun _ _ _ hh h => h.of_heap hh) own started (by kernel_rfl) Tryz.func8
    (ChangeSpec.witness_shaped (enc := enc) (C := Tryz.checked) (os := os) (X := fun w _ => laidMetH Tryz.prog laidL w) false (World.laidAll Tryz.prog os laidL) #[.agg #[.string ⟨#[]⟩, .string ⟨#[]⟩], .string ⟨#[]⟩] 8 (World.laidAll_os _ _ _)
      laid_shaped (by kernel_rfl) (by kernel_rfl) (by kernel_rfl)
      laid_met) ?_
  intro W base args ds gs before hval0 hW hL hs
  have hval : ∀ (j : Nat) t v, Tryz.f8.params[j]? = some t → args[j]? = some v → Value.okWide Tryz.prog W .any base t v := hval0
  have hW' := hW
  obtain ⟨p, q, hA0, hV, rfl, hfz, hnd⟩ := hW
  have hA : DataW.TrodAll enc Tryz.prog W 0 (fun _ => true) true Tryz.f8.params.toList args.toList ds p := hA0
  rw [Tryz.params8] at hA hval
  obtain ⟨v0, v1, d0, d1, p0, p1, rfl, rfl, rfl, h0, h1⟩ := trodAll_two hA
  obtain ⟨rfl, rfl⟩ := trodVars_none hV
  obtain ⟨a0, a1, rfl, rfl, rfl, ma⟩ := open_att (hval 0 _ _ rfl rfl) h0
  obtain ⟨b, rfl, rfl, rfl, mb⟩ := open_rat (hval 1 _ _ rfl rfl) h1
  refine (la_frames a0 a1 b W (env_of_laid hL hs) ma mb).mono fun e W' ⟨he, hw⟩ => ?_
  subst he
  refine ⟨_, rfl, _, _, _, [], [], [], hW', ?_, ?_, rfl, hw.frame _, fun h => by cases h⟩
  · exact trodAll_mk1 (shut_bool Tryz.underlying4 true)
  · exact trodAll_mk2 (shut_att ma) (shut_rat mb)

theorem attitudeFrames_named : Tryz.prog.funcNamed Rows.attitudeFramesRow.func = some 8 := by kernel_rfl
theorem attitudeFrames_reach : ((Rows.attitudeFramesRow.inPlace == Tryz.prog.inPlace 8) && (Rows.attitudeFramesRow.unfollowed == Tryz.prog.unfollowed 8) && (Rows.attitudeFramesRow.recurses == Tryz.prog.recurses 8) && (Rows.attitudeFramesRow.named == Tryz.prog.varsNamed 8)) = true := by kernel_rfl
theorem attitudeFrames_joined : joinedFacts Tryz.prog 8 Tryz.f8 Rows.attitudeFramesSpec Rows.attitudeFramesRow = true :=
  joined_of (by kernel_rfl) cf_laid cf_maps (by kernel_rfl) (by kernel_rfl) rfl cf_stops rfl cf_knobs attitudeFrames_reach (by kernel_rfl) cf_keys rfl cf_heard cf_enter cf_lift cf_make (by kernel_rfl)
theorem attitudeFrames_inst : Tryz.f8.isInstance Tryz.prog Rows.attitudeFramesRow.origin Rows.attitudeFramesRow.targs := of_decide_eq_true (by kernel_rfl)
theorem attitudeFrames_wrap : Tryz.f8.isWrapper Tryz.prog Rows.attitudeFramesRow.wrapper Rows.attitudeFramesRow.mainSum := by
  unfold Func.isWrapper
  first | (rw [if_pos (by decide +kernel)]; kernel_rfl) | (rw [if_neg (by decide +kernel)]; exact ⟨rfl, rfl⟩)
theorem attitudeFrames_row : Rows.AttitudeFramesSaid :=
  OpenClaim.holds_of_wide 8 Tryz.f8 rfl rfl rfl rfl rfl rfl rfl ⟨rfl, rfl, rfl, rfl, rfl⟩ rfl rfl rfl rfl rfl attitudeFrames_named Tryz.func8 attitudeFrames_joined attitudeFrames_inst attitudeFrames_wrap
    (fun os started H enc _ => attitudeFrames_lifted os started H enc)

theorem attitudeFrames_wf : Rows.attitudeFramesRow.wfByText (OpenSpec.ofChange Rows.attitudeFramesSpec) = true := by kernel_rfl
theorem attitudeFrames_main : Tryz.prog.mainIs = some (true, "f6834b59d3a32dc1caebcdd56e5cc166c0610937adb86b9103e646233883aa4a".toList) := by kernel_rfl
theorem attitudeFrames_goes : false = Rows.attitudeFramesRow.goesBy Tryz.prog := by kernel_rfl
theorem attitudeFrames_looks : true = Tryz.prog.looks [] := by kernel_rfl
theorem attitudeFrames_wants : ([24, 22].all fun u => !Tryz.prog.wantsStandIn u) = true := by kernel_rfl
theorem attitudeFrames_holds : Rows.AttitudeFramesCardSaid :=
  Claim7.holds_tied_plain_at .later [] [.data, .data, .data, .sentinel, .sentinel] true (true, "f6834b59d3a32dc1caebcdd56e5cc166c0610937adb86b9103e646233883aa4a") true
    attitudeFrames_row (fun _ h => by cases h) attitudeFrames_wf (fun _ h => by cases h) attitudeFrames_row_tie rfl ⟨rfl, rfl⟩ attitudeFrames_main rfl
    (fun f fn hf hfn => by
      obtain rfl : f = 8 := Option.some.inj (Eq.trans (Eq.symm attitudeFrames_named) hf) |>.symm
      obtain rfl : fn = Tryz.f8 := (Option.some.inj (Tryz.func8.symm.trans hfn)).symm
      exact ⟨attitudeFrames_looks, fun j t ht => by
        rw [Tryz.params8] at ht
        have hm : t ∈ [24, 22] := by simpa using Array.mem_of_getElem? ht
        exact (show Tryz.prog.wantsStandIn t = false by simpa using List.all_eq_true.1 attitudeFrames_wants t hm)⟩)
    attitudeFrames_goes
#print axioms attitudeFrames_holds
end Go.Proofs.YtgbabmkclojgeaaGreatDoor
