/- Proved: garboardlaw16.AttitudeReturns returns true at every input, and each argument reads afterwards as it read before. Conditions: those of the given card alone (the five listed package-level variables hold, as the call begins, what the program's text lays in them). -/
import Derived.Test.YtgbabmkclojgeaaGreatDoorQyReturns
import Derived.Test.YtgbabmkclojgeaaGreatDoorQwAttitude
import Derived.Test.YtgbabmkclojgeaaGreatDoorPoLaw
import Derived.Carry
import Derived.Test.YtgbabmkclojgeaaGreatDoorTie
import Derived.Test.YtgbabmkclojgeaaGreatDoorCards
import Derived.SevenTiedAt
namespace Go.Proofs.YtgbabmkclojgeaaGreatDoor
open Go.ChangeShapes Go.WideShapes Go.ChangeAt Go.ChangeMaps Go.RowKit

set_option maxRecDepth 100000 in
theorem attitudeReturns_lifted (os : Os) (started : os.Started) (H : Type) (enc : TypeId × Value → H) :
    ReturnsInHanded {} Tryz.checked os 10 .any (fun w args => (Rows.attitudeReturnsSpec.pre enc Tryz.prog Tryz.f10 [] false w args ∧ laidMetH Tryz.prog laidL w) ∧ sizedMet enc Tryz.prog Tryz.f10 (OpenSpec.ofChange Rows.attitudeReturnsSpec) false w args)
      (Rows.attitudeReturnsSpec.post enc Tryz.prog Tryz.f10 false true false false) := by
  refine handed_and_shaped (C := Tryz.checked) (X := fun w _ => laidMetH Tryz.prog laidL w) (fun _ _ _ hh h => h.of_heap hh) own started (by kernel_rfl) Tryz.func10
    (ChangeSpec.witness_shaped (enc := enc) (C := Tryz.checked) (os := os) (X := fun w _ => laidMetH Tryz.prog laidL w) false (World.laidAll Tryz.prog os laidL) #[.agg #[.string ⟨#[]⟩, .string ⟨#[]⟩], .agg #[.string ⟨#[]⟩, .string ⟨#[]⟩, .string ⟨#[]⟩]] 8 (World.laidAll_os _ _ _)
      laid_shaped (by kernel_rfl) (by kernel_rfl) (by kernel_rfl)
      laid_met) ?_
  intro W base args ds gs before hval0 hW hL hs
  have hval : ∀ (j : Nat) t v, Tryz.f10.params[j]? = some t → args[j]? = some v → Value.okWide Tryz.prog W .any base t v := hval0
  have hW' := hW
  obtain ⟨p, q, hA0, hV, rfl, hfz, hnd⟩ := hW
  have hA : DataW.TrodAll enc Tryz.prog W 0 (fun _ => true) true Tryz.f10.params.toList args.toList ds p := hA0
  rw [Tryz.params10] at hA hval
  obtain ⟨v0, v1, d0, d1, p0, p1, rfl, rfl, rfl, h0, h1⟩ := trodAll_two hA
  obtain ⟨rfl, rfl⟩ := trodVars_none hV
  obtain ⟨a0, a1, rfl, rfl, rfl, ma⟩ := open_att (hval 0 _ _ rfl rfl) h0
  obtain ⟨b0, b1, b2, rfl, rfl, rfl, mb⟩ := open_vec (hval 1 _ _ rfl rfl) h1
  refine (la_returns a0 a1 b0 b1 b2 W (env_of_laid hL hs) ma mb).mono fun e W' ⟨he, hw⟩ => ?_
  subst he
  refine ⟨_, rfl, _, _, _, [], [], [], hW', ?_, ?_, rfl, hw.frame _, fun h => by cases h⟩
  · exact trodAll_mk1 (shut_bool Tryz.underlying4 true)
  · exact trodAll_mk2 (shut_att ma) (shut_vec mb)

theorem attitudeReturns_named : Tryz.prog.funcNamed Rows.attitudeReturnsRow.func = some 10 := by kernel_rfl
theorem attitudeReturns_reach : ((Rows.attitudeReturnsRow.inPlace == Tryz.prog.inPlace 10) && (Rows.attitudeReturnsRow.unfollowed == Tryz.prog.unfollowed 10) && (Rows.attitudeReturnsRow.recurses == Tryz.prog.recurses 10) && (Rows.attitudeReturnsRow.named == Tryz.prog.varsNamed 10)) = true := by kernel_rfl
theorem attitudeReturns_joined : joinedFacts Tryz.prog 10 Tryz.f10 Rows.attitudeReturnsSpec Rows.attitudeReturnsRow = true :=
  joined_of (by kernel_rfl) cf_laid cf_maps (by kernel_rfl) (by kernel_rfl) rfl cf_stops rfl cf_knobs attitudeReturns_reach (by kernel_rfl) cf_keys rfl cf_heard cf_enter cf_lift cf_make (by kernel_rfl)
theorem attitudeReturns_inst : Tryz.f10.isInstance Tryz.prog Rows.attitudeReturnsRow.origin Rows.attitudeReturnsRow.targs := of_decide_eq_true (by kernel_rfl)
theorem attitudeReturns_wrap : Tryz.f10.isWrapper Tryz.prog Rows.attitudeReturnsRow.wrapper Rows.attitudeReturnsRow.mainSum := by
  unfold Func.isWrapper
  first | (rw [if_pos (by decide +kernel)]; kernel_rfl) | (rw [if_neg (by decide +kernel)]; exact ⟨rfl, rfl⟩)
theorem attitudeReturns_row : Rows.AttitudeReturnsSaid :=
  OpenClaim.holds_of_wide 10 Tryz.f10 rfl rfl rfl rfl rfl rfl rfl ⟨rfl, rfl, rfl, rfl, rfl⟩ rfl rfl rfl rfl rfl attitudeReturns_named Tryz.func10 attitudeReturns_joined attitudeReturns_inst attitudeReturns_wrap
    (fun os started H enc _ => attitudeReturns_lifted os started H enc)

theorem attitudeReturns_wf : Rows.attitudeReturnsRow.wfByText (OpenSpec.ofChange Rows.attitudeReturnsSpec) = true := by kernel_rfl
theorem attitudeReturns_main : Tryz.prog.mainIs = some (true, "f6834b59d3a32dc1caebcdd56e5cc166c0610937adb86b9103e646233883aa4a".toList) := by kernel_rfl
theorem attitudeReturns_goes : false = Rows.attitudeReturnsRow.goesBy Tryz.prog := by kernel_rfl
theorem attitudeReturns_looks : true = Tryz.prog.looks [] := by kernel_rfl
theorem attitudeReturns_wants : ([24, 28].all fun u => !Tryz.prog.wantsStandIn u) = true := by kernel_rfl
theorem attitudeReturns_holds : Rows.AttitudeReturnsCardSaid :=
  Claim7.holds_tied_plain_at .later [] [.data, .data, .data, .sentinel, .sentinel] true (true, "f6834b59d3a32dc1caebcdd56e5cc166c0610937adb86b9103e646233883aa4a") true
    attitudeReturns_row (fun _ h => by cases h) attitudeReturns_wf (fun _ h => by cases h) attitudeReturns_row_tie rfl ⟨rfl, rfl⟩ attitudeReturns_main rfl
    (fun f fn hf hfn => by
      obtain rfl : f = 10 := Option.some.inj (Eq.trans (Eq.symm attitudeReturns_named) hf) |>.symm
      obtain rfl : fn = Tryz.f10 := (Option.some.inj (Tryz.func10.symm.trans hfn)).symm
      exact ⟨attitudeReturns_looks, fun j t ht => by
        rw [Tryz.params10] at ht
        have hm : t ∈ [24, 28] := by simpa using Array.mem_of_getElem? ht
        exact (show Tryz.prog.wantsStandIn t = false by simpa using List.all_eq_true.1 attitudeReturns_wants t hm)⟩)
    attitudeReturns_goes
#print axioms attitudeReturns_holds
end Go.Proofs.YtgbabmkclojgeaaGreatDoor
