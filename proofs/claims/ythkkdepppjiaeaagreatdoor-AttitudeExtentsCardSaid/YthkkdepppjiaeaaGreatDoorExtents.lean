/- Proved: garboardlaw16.AttitudeExtents returns true at every input, and each argument reads afterwards as it read before. Conditions: those of the given card alone (the five listed package-level variables hold, as the call begins, what the program's text lays in them). -/
import Derived.Test.YthkkdepppjiaeaaGreatDoorRmExtents
import Derived.Test.YthkkdepppjiaeaaGreatDoorRiWithin
import Derived.Test.YthkkdepppjiaeaaGreatDoorQwAttitude
import Derived.Test.YthkkdepppjiaeaaGreatDoorPoLaw
import Derived.Carry
import Derived.Test.YthkkdepppjiaeaaGreatDoorTie
import Derived.Test.YthkkdepppjiaeaaGreatDoorCards
import Derived.SevenTiedAt
namespace Go.Proofs.YthkkdepppjiaeaaGreatDoor
open Go.ChangeShapes Go.WideShapes Go.ChangeAt Go.ChangeMaps Go.RowKit

set_option maxRecDepth 100000 in
theorem attitudeExtents_lifted (os : Os) (started : os.Started) (H : Type) (enc : TypeId × Value → H) :
    ReturnsInHanded {} Tryz.checked os 7 .any (fun w args => (Rows.attitudeExtentsSpec.pre enc Tryz.prog Tryz.f7 [] false w args ∧ laidMetH Tryz.prog laidL w) ∧ sizedMet enc Tryz.prog Tryz.f7 (OpenSpec.ofChange Rows.attitudeExtentsSpec) false w args)
      (Rows.attitudeExtentsSpec.post enc Tryz.prog Tryz.f7 false true false false) := by
  refine handed_and_shaped (C := Tryz.checked) (X := fun w _ => laidMetH Tryz.prog laidL w) (fun _ _ _ hh h => h.of_heap hh) own started (by kernel_rfl) Tryz.func7
    (ChangeSpec.witness_shaped (enc := enc) (C := Tryz.checked) (os := os) (X := fun w _ => laidMetH Tryz.prog laidL w) false (World.laidAll Tryz.prog os laidL) #[.slice none 0 0, .agg #[.string ⟨#[]⟩, .string ⟨#[]⟩]] 8 (World.laidAll_os _ _ _)
      laid_shaped (by kernel_rfl) (by kernel_rfl) (by kernel_rfl)
      laid_met) ?_
  intro W base args ds gs before hval0 hW hL hs
  have hval : ∀ (j : Nat) t v, Tryz.f7.params[j]? = some t → args[j]? = some v → Value.okWide Tryz.prog W .any base t v := hval0
  have hW' := hW
  obtain ⟨p, q, hA0, hV, rfl, hfz, hnd⟩ := hW
  have hA : DataW.TrodAll enc Tryz.prog W 0 (fun _ => true) true Tryz.f7.params.toList args.toList ds p := hA0
  rw [Tryz.params7] at hA hval
  obtain ⟨v0, v1, d0, d1, p0, p1, rfl, rfl, rfl, h0, h1⟩ := trodAll_two hA
  obtain ⟨rfl, rfl⟩ := trodVars_none hV
  have h0k := h0
  have hlt0 : ∀ x ∈ p0, x.block < W.heap.size := fun x hx => by simpa using hW'.lt x (by simp [hx])
  obtain ⟨aA, an, ac, aT, rfl, maa, mal, man, ma⟩ := open_sol (hval 0 _ _ rfl rfl) h0
  obtain ⟨b0, b1, rfl, rfl, rfl, mb⟩ := open_att (hval 1 _ _ rfl rfl) h1
  refine (la_extents aA an ac aT b0 b1 W (env_of_laid hL hs) maa mal man ma mb).mono fun e W' ⟨he, hw⟩ => ?_
  subst he
  refine ⟨_, rfl, _, _, _, [], (p0 ++ []), [], hW', ?_, ?_, rfl, hw.frame _, fun h => by cases h⟩
  · exact trodAll_mk1 (shut_bool Tryz.underlying4 true)
  · exact trodAll_mk2 (Below.trod cf_laid (by kernel_rfl) (of_decide_eq_true (by kernel_rfl)) h0k hw hlt0) (shut_att mb)

theorem attitudeExtents_named : Tryz.prog.funcNamed Rows.attitudeExtentsRow.func = some 7 := by kernel_rfl
theorem attitudeExtents_reach : ((Rows.attitudeExtentsRow.inPlace == Tryz.prog.inPlace 7) && (Rows.attitudeExtentsRow.unfollowed == Tryz.prog.unfollowed 7) && (Rows.attitudeExtentsRow.recurses == Tryz.prog.recurses 7) && (Rows.attitudeExtentsRow.named == Tryz.prog.varsNamed 7)) = true := by kernel_rfl
theorem attitudeExtents_joined : joinedFacts Tryz.prog 7 Tryz.f7 Rows.attitudeExtentsSpec Rows.attitudeExtentsRow = true :=
  joined_of (by kernel_rfl) cf_laid cf_maps (by kernel_rfl) (by kernel_rfl) rfl cf_stops rfl cf_knobs attitudeExtents_reach (by kernel_rfl) cf_keys rfl cf_heard cf_enter cf_lift cf_make (by kernel_rfl)
theorem attitudeExtents_inst : Tryz.f7.isInstance Tryz.prog Rows.attitudeExtentsRow.origin Rows.attitudeExtentsRow.targs := of_decide_eq_true (by kernel_rfl)
theorem attitudeExtents_wrap : Tryz.f7.isWrapper Tryz.prog Rows.attitudeExtentsRow.wrapper Rows.attitudeExtentsRow.mainSum := by
  unfold Func.isWrapper
  first | (rw [if_pos (by decide +kernel)]; kernel_rfl) | (rw [if_neg (by decide +kernel)]; exact ⟨rfl, rfl⟩)
theorem attitudeExtents_row : Rows.AttitudeExtentsSaid :=
  OpenClaim.holds_of_wide 7 Tryz.f7 rfl rfl rfl rfl rfl rfl rfl ⟨rfl, rfl, rfl, rfl, rfl⟩ rfl rfl rfl rfl rfl attitudeExtents_named Tryz.func7 attitudeExtents_joined attitudeExtents_inst attitudeExtents_wrap
    (fun os started H enc _ => attitudeExtents_lifted os started H enc)

theorem attitudeExtents_wf : Rows.attitudeExtentsRow.wfByText (OpenSpec.ofChange Rows.attitudeExtentsSpec) = true := by kernel_rfl
theorem attitudeExtents_main : Tryz.prog.mainIs = some (true, "7265d2a93afa579c9340c889e0bb7d3c71767742125bf655704527e1a27fcd2e".toList) := by kernel_rfl
theorem attitudeExtents_goes : false = Rows.attitudeExtentsRow.goesBy Tryz.prog := by kernel_rfl
theorem attitudeExtents_looks : true = Tryz.prog.looks [] := by kernel_rfl
theorem attitudeExtents_wants : ([71, 28].all fun u => !Tryz.prog.wantsStandIn u) = true := by kernel_rfl
theorem attitudeExtents_holds : Rows.AttitudeExtentsCardSaid :=
  Claim7.holds_tied_plain_at .later [] [.data, .data, .data, .sentinel, .sentinel] true (true, "7265d2a93afa579c9340c889e0bb7d3c71767742125bf655704527e1a27fcd2e") true
    attitudeExtents_row (fun _ h => by cases h) attitudeExtents_wf (fun _ h => by cases h) attitudeExtents_row_tie rfl ⟨rfl, rfl⟩ attitudeExtents_main rfl
    (fun f fn hf hfn => by
      obtain rfl : f = 7 := Option.some.inj (Eq.trans (Eq.symm attitudeExtents_named) hf) |>.symm
      obtain rfl : fn = Tryz.f7 := (Option.some.inj (Tryz.func7.symm.trans hfn)).symm
      exact ⟨attitudeExtents_looks, fun j t ht => by
        rw [Tryz.params7] at ht
        have hm : t ∈ [71, 28] := by simpa using Array.mem_of_getElem? ht
        exact (show Tryz.prog.wantsStandIn t = false by simpa using List.all_eq_true.1 attitudeExtents_wants t hm)⟩)
    attitudeExtents_goes
#print axioms attitudeExtents_holds
end Go.Proofs.YthkkdepppjiaeaaGreatDoor
