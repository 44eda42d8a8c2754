/- Proved: garboardlaw16.AttitudeWithin returns true at every input, and each argument reads afterwards as it read before. Conditions: those of the given card alone (the five listed package-level variables hold, as the call begins, what the program's text lays in them). -/
import Derived.Test.YtgbabmkclojgeaaGreatDoorRiWithin
import Derived.Test.YtgbabmkclojgeaaGreatDoorQwAttitude
import Derived.Test.YtgbabmkclojgeaaGreatDoorPoLaw
import Derived.Carry
import Derived.Test.YtgbabmkclojgeaaGreatDoorTie
import Derived.Test.YtgbabmkclojgeaaGreatDoorCards
import Derived.SevenTiedAt
namespace Go.Proofs.YtgbabmkclojgeaaGreatDoor
open Go.ChangeShapes Go.WideShapes Go.ChangeAt Go.ChangeMaps Go.RowKit

set_option maxRecDepth 100000 in
theorem attitudeWithin_lifted (os : Os) (started : os.Started) (H : Type) (enc : TypeId × Value → H) :
    ReturnsInHanded {} Tryz.checked os 12 .any (fun w args => (Rows.attitudeWithinSpec.pre enc Tryz.prog Tryz.f12 [] false w args ∧ laidMetH Tryz.prog laidL w) ∧ sizedMet enc Tryz.prog Tryz.f12 (OpenSpec.ofChange Rows.attitudeWithinSpec) false w args)
      (Rows.attitudeWithinSpec.post enc Tryz.prog Tryz.f12 false true false false) := by
  refine handed_and_shaped (C := Tryz.checked) (X := fun w _ => laidMetH Tryz.prog laidL w) (fun _ _ _ hh h => h.of_heap hh) own started (by kernel_rfl) Tryz.func12
    (ChangeSpec.witness_shaped (enc := enc) (C := Tryz.checked) (os := os) (X := fun w _ => laidMetH Tryz.prog laidL w) false (World.laidAll Tryz.prog os laidL) #[.slice none 0 0, .agg #[.string ⟨#[]⟩, .string ⟨#[]⟩]] 8 (World.laidAll_os _ _ _)
      laid_shaped (by kernel_rfl) (by kernel_rfl) (by kernel_rfl)
      laid_met) ?_
  intro W base args ds gs before hval0 hW hL hs
  have hval : ∀ (j : Nat) t v, Tryz.f12.params[j]? = some t → args[j]? = some v → Value.okWide Tryz.prog W .any base t v := hval0
  have hW' := hW
  obtain ⟨p, q, hA0, hV, rfl, hfz, hnd⟩ := hW
  have hA : DataW.TrodAll enc Tryz.prog W 0 (fun _ => true) true Tryz.f12.params.toList args.toList ds p := hA0
  rw [Tryz.params12] at hA hval
  obtain ⟨v0, v1, d0, d1, p0, p1, rfl, rfl, rfl, h0, h1⟩ := trodAll_two hA
  obtain ⟨rfl, rfl⟩ := trodVars_none hV
  have h0k := h0
  have hlt0 : ∀ x ∈ p0, x.block < W.heap.size := fun x hx => by simpa using hW'.lt x (by simp [hx])
  obtain ⟨aA, an, ac, aT, rfl, maa, mal, man, ma⟩ := open_sol (hval 0 _ _ rfl rfl) h0
  obtain ⟨b0, b1, rfl, rfl, rfl, mb⟩ := open_att (hval 1 _ _ rfl rfl) h1
  refine (la_within aA an ac aT b0 b1 W (env_of_laid hL hs) maa mal man ma mb).mono fun e W' ⟨he, hw⟩ => ?_
  subst he
  refine ⟨_, rfl, _, _, _, [], (p0 ++ []), [], hW', ?_, ?_, rfl, hw.frame _, fun h => by cases h⟩
  · exact trodAll_mk1 (shut_bool Tryz.underlying4 true)
  · exact trodAll_mk2 (Below.trod cf_laid (by kernel_rfl) (of_decide_eq_true (by kernel_rfl)) h0k hw hlt0) (shut_att mb)

theorem attitudeWithin_named : Tryz.prog.funcNamed Rows.attitudeWithinRow.func = some 12 := by kernel_rfl
theorem attitudeWithin_reach : ((Rows.attitudeWithinRow.inPlace == Tryz.prog.inPlace 12) && (Rows.attitudeWithinRow.unfollowed == Tryz.prog.unfollowed 12) && (Rows.attitudeWithinRow.recurses == Tryz.prog.recurses 12) && (Rows.attitudeWithinRow.named == Tryz.prog.varsNamed 12)) = true := by kernel_rfl
theorem attitudeWithin_joined : joinedFacts Tryz.prog 12 Tryz.f12 Rows.attitudeWithinSpec Rows.attitudeWithinRow = true :=
  joined_of (by kernel_rfl) cf_laid cf_maps (by kernel_rfl) (by kernel_rfl) rfl cf_stops rfl cf_knobs attitudeWithin_reach (by kernel_rfl) cf_keys rfl cf_heard cf_enter cf_lift cf_make (by kernel_rfl)
theorem attitudeWithin_inst : Tryz.f12.isInstance Tryz.prog Rows.attitudeWithinRow.origin Rows.attitudeWithinRow.targs := of_decide_eq_true (by kernel_rfl)
theorem attitudeWithin_wrap : Tryz.f12.isWrapper Tryz.prog Rows.attitudeWithinRow.wrapper Rows.attitudeWithinRow.mainSum := by
  unfold Func.isWrapper
  first | (rw [if_pos (by decide +kernel)]; kernel_rfl) | (rw [if_neg (by decide +kernel)]; exact ⟨rfl, rfl⟩)
theorem attitudeWithin_row : Rows.AttitudeWithinSaid :=
  OpenClaim.holds_of_wide 12 Tryz.f12 rfl rfl rfl rfl rfl rfl rfl ⟨rfl, rfl, rfl, rfl, rfl⟩ rfl rfl rfl rfl rfl attitudeWithin_named Tryz.func12 attitudeWithin_joined attitudeWithin_inst attitudeWithin_wrap
    (fun os started H enc _ => attitudeWithin_lifted os started H enc)

theorem attitudeWithin_wf : Rows.attitudeWithinRow.wfByText (OpenSpec.ofChange Rows.attitudeWithinSpec) = true := by kernel_rfl
theorem attitudeWithin_main : Tryz.prog.mainIs = some (true, "f6834b59d3a32dc1caebcdd56e5cc166c0610937adb86b9103e646233883aa4a".toList) := by kernel_rfl
theorem attitudeWithin_goes : false = Rows.attitudeWithinRow.goesBy Tryz.prog := by kernel_rfl
theorem attitudeWithin_looks : true = Tryz.prog.looks [] := by kernel_rfl
theorem attitudeWithin_wants : ([83, 24].all fun u => !Tryz.prog.wantsStandIn u) = true := by kernel_rfl
theorem attitudeWithin_holds : Rows.AttitudeWithinCardSaid :=
  Claim7.holds_tied_plain_at .later [] [.data, .data, .data, .sentinel, .sentinel] true (true, "f6834b59d3a32dc1caebcdd56e5cc166c0610937adb86b9103e646233883aa4a") true
    attitudeWithin_row (fun _ h => by cases h) attitudeWithin_wf (fun _ h => by cases h) attitudeWithin_row_tie rfl ⟨rfl, rfl⟩ attitudeWithin_main rfl
    (fun f fn hf hfn => by
      obtain rfl : f = 12 := Option.some.inj (Eq.trans (Eq.symm attitudeWithin_named) hf) |>.symm
      obtain rfl : fn = Tryz.f12 := (Option.some.inj (Tryz.func12.symm.trans hfn)).symm
      exact ⟨attitudeWithin_looks, fun j t ht => by
        rw [Tryz.params12] at ht
        have hm : t ∈ [83, 24] := by simpa using Array.mem_of_getElem? ht
        exact (show Tryz.prog.wantsStandIn t = false by simpa using List.all_eq_true.1 attitudeWithin_wants t hm)⟩)
    attitudeWithin_goes
#print axioms attitudeWithin_holds
end Go.Proofs.YtgbabmkclojgeaaGreatDoor
