/- Proved: garboardlaw31.OpeningChecks returns true at every input, and each argument reads afterwards as it read before. Conditions: those of the given card alone (the five listed package-level variables hold, as the call begins, what the program's text lays in them). -/
import Derived.Test.YthkkdepppjiaeaaGreatDoorSgChecks
import Derived.Test.YthkkdepppjiaeaaGreatDoorSdOpening
import Derived.Test.YthkkdepppjiaeaaGreatDoorPoLaw
import Derived.Carry
import Derived.Test.YthkkdepppjiaeaaGreatDoorTie
import Derived.Test.YthkkdepppjiaeaaGreatDoorCards
import Derived.SevenTiedAt
namespace Go.Proofs.YthkkdepppjiaeaaGreatDoor
open Go.ChangeShapes Go.WideShapes Go.ChangeAt Go.ChangeMaps Go.RowKit

set_option maxRecDepth 100000 in
theorem openingChecks_lifted (os : Os) (started : os.Started) (H : Type) (enc : TypeId × Value → H) :
    ReturnsInHanded {} Tryz.checked os 5 .any (fun w args => (Rows.openingChecksSpec.pre enc Tryz.prog Tryz.f5 [] false w args ∧ laidMetH Tryz.prog laidL w) ∧ sizedMet enc Tryz.prog Tryz.f5 (OpenSpec.ofChange Rows.openingChecksSpec) false w args)
      (Rows.openingChecksSpec.post enc Tryz.prog Tryz.f5 false true false false) := by
  refine handed_and_shaped (C := Tryz.checked) (X := fun w _ => laidMetH Tryz.prog laidL w) (fun _ _ _ hh h => h.of_heap hh) own started (by kernel_rfl) Tryz.func5
    (ChangeSpec.witness_shaped (enc := enc) (C := Tryz.checked) (os := os) (X := fun w _ => laidMetH Tryz.prog laidL w) false (World.laidAll Tryz.prog os laidL) #[.slice none 0 0, .bool false] 8 (World.laidAll_os _ _ _)
      laid_shaped (by kernel_rfl) (by kernel_rfl) (by kernel_rfl)
      laid_met) ?_
  intro W base args ds gs before hval0 hW hL hs
  have hval : ∀ (j : Nat) t v, Tryz.f5.params[j]? = some t → args[j]? = some v → Value.okWide Tryz.prog W .any base t v := hval0
  have hW' := hW
  obtain ⟨p, q, hA0, hV, rfl, hfz, hnd⟩ := hW
  have hA : DataW.TrodAll enc Tryz.prog W 0 (fun _ => true) true Tryz.f5.params.toList args.toList ds p := hA0
  rw [Tryz.params5] at hA hval
  obtain ⟨v0, v1, d0, d1, p0, p1, rfl, rfl, rfl, h0, h1⟩ := trodAll_two hA
  obtain ⟨rfl, rfl⟩ := trodVars_none hV
  have h0k := h0
  have hlt0 : ∀ x ∈ p0, x.block < W.heap.size := fun x hx => by simpa using hW'.lt x (by simp [hx])
  obtain ⟨aA, an, ac, aT, rfl, maa, mal, man, ma⟩ := open_opns (hval 0 _ _ rfl rfl) h0
  obtain ⟨b, rfl, rfl, rfl⟩ := open_bool Tryz.underlying4 (hval 1 _ _ rfl rfl) h1
  refine (la_op_checks aA an ac aT b W (env_of_laid hL hs) maa mal man ma).mono fun e W' ⟨he, hw⟩ => ?_
  subst he
  refine ⟨_, rfl, _, _, _, [], (p0 ++ ([])), [], hW', ?_, ?_, rfl, hw.frame _, fun h => by cases h⟩
  · exact trodAll_mk1 (shut_bool Tryz.underlying4 true)
  · exact trodAll_mk2 (Below.trod cf_laid (by kernel_rfl) (of_decide_eq_true (by kernel_rfl)) h0k hw hlt0) (shut_bool Tryz.underlying4 b)

theorem openingChecks_named : Tryz.prog.funcNamed Rows.openingChecksRow.func = some 5 := by kernel_rfl
theorem openingChecks_reach : ((Rows.openingChecksRow.inPlace == Tryz.prog.inPlace 5) && (Rows.openingChecksRow.unfollowed == Tryz.prog.unfollowed 5) && (Rows.openingChecksRow.recurses == Tryz.prog.recurses 5) && (Rows.openingChecksRow.named == Tryz.prog.varsNamed 5)) = true := by kernel_rfl
theorem openingChecks_joined : joinedFacts Tryz.prog 5 Tryz.f5 Rows.openingChecksSpec Rows.openingChecksRow = true :=
  joined_of (by kernel_rfl) cf_laid cf_maps (by kernel_rfl) (by kernel_rfl) rfl cf_stops rfl cf_knobs openingChecks_reach (by kernel_rfl) cf_keys rfl cf_heard cf_enter cf_lift cf_make (by kernel_rfl)
theorem openingChecks_inst : Tryz.f5.isInstance Tryz.prog Rows.openingChecksRow.origin Rows.openingChecksRow.targs := of_decide_eq_true (by kernel_rfl)
theorem openingChecks_wrap : Tryz.f5.isWrapper Tryz.prog Rows.openingChecksRow.wrapper Rows.openingChecksRow.mainSum := by
  unfold Func.isWrapper
  first | (rw [if_pos (by decide +kernel)]; kernel_rfl) | (rw [if_neg (by decide +kernel)]; exact ⟨rfl, rfl⟩)
theorem openingChecks_row : Rows.OpeningChecksSaid :=
  OpenClaim.holds_of_wide 5 Tryz.f5 rfl rfl rfl rfl rfl rfl rfl ⟨rfl, rfl, rfl, rfl, rfl⟩ rfl rfl rfl rfl rfl openingChecks_named Tryz.func5 openingChecks_joined openingChecks_inst openingChecks_wrap
    (fun os started H enc _ => openingChecks_lifted os started H enc)

theorem openingChecks_wf : Rows.openingChecksRow.wfByText (OpenSpec.ofChange Rows.openingChecksSpec) = true := by kernel_rfl
theorem openingChecks_main : Tryz.prog.mainIs = some (true, "7265d2a93afa579c9340c889e0bb7d3c71767742125bf655704527e1a27fcd2e".toList) := by kernel_rfl
theorem openingChecks_goes : false = Rows.openingChecksRow.goesBy Tryz.prog := by kernel_rfl
theorem openingChecks_looks : true = Tryz.prog.looks [] := by kernel_rfl
theorem openingChecks_wants : ([62, 4].all fun u => !Tryz.prog.wantsStandIn u) = true := by kernel_rfl
theorem openingChecks_holds : Rows.OpeningChecksCardSaid :=
  Claim7.holds_tied_plain_at .later [] [.data, .data, .data, .sentinel, .sentinel] true (true, "7265d2a93afa579c9340c889e0bb7d3c71767742125bf655704527e1a27fcd2e") true
    openingChecks_row (fun _ h => by cases h) openingChecks_wf (fun _ h => by cases h) openingChecks_row_tie rfl ⟨rfl, rfl⟩ openingChecks_main rfl
    (fun f fn hf hfn => by
      obtain rfl : f = 5 := Option.some.inj (Eq.trans (Eq.symm openingChecks_named) hf) |>.symm
      obtain rfl : fn = Tryz.f5 := (Option.some.inj (Tryz.func5.symm.trans hfn)).symm
      exact ⟨openingChecks_looks, fun j t ht => by
        rw [Tryz.params5] at ht
        have hm : t ∈ [62, 4] := by simpa using Array.mem_of_getElem? ht
        exact (show Tryz.prog.wantsStandIn t = false by simpa using List.all_eq_true.1 openingChecks_wants t hm)⟩)
    openingChecks_goes
#print axioms openingChecks_holds
end Go.Proofs.YthkkdepppjiaeaaGreatDoor
