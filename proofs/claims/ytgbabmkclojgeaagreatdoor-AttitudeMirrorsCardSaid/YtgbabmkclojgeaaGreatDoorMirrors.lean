/- Proved: garboardlaw16.AttitudeMirrors returns true at every input, and each argument reads afterwards as it read before. Conditions: those of the given card alone (the five listed package-level variables hold, as the call begins, what the program's text lays in them). -/
import Derived.Test.YtgbabmkclojgeaaGreatDoorQxMirrors
import Derived.Test.YtgbabmkclojgeaaGreatDoorQwAttitude
import Derived.Test.YtgbabmkclojgeaaGreatDoorPoLaw
import Derived.Carry
import Derived.Test.YtgbabmkclojgeaaGreatDoorTie
import Derived.Test.YtgbabmkclojgeaaGreatDoorCards
import Derived.SevenTiedAt
namespace Go.Proofs.YtgbabmkclojgeaaGreatDoor
open Go.ChangeShapes Go.WideShapes Go.ChangeAt Go.ChangeMaps Go.RowKit

set_option maxRecDepth 100000 in
theorem attitudeMirrors_lifted (os : Os) (started : os.Started) (H : Type) (enc : TypeId × Value → H) :
    ReturnsInHanded {} Tryz.checked os 6 .any (fun w args => (Rows.attitudeMirrorsSpec.pre enc Tryz.prog Tryz.f6 [] false w args ∧ laidMetH Tryz.prog laidL w) ∧ sizedMet enc Tryz.prog Tryz.f6 (OpenSpec.ofChange Rows.attitudeMirrorsSpec) false w args)
      (Rows.attitudeMirrorsSpec.post enc Tryz.prog Tryz.f6 false true false false) := by
  refine handed_and_shaped (C := Tryz.checked) (X := fun w _ => laidMetH Tryz.prog laidL w) (fun _ _ _ hh h => h.of_heap hh) own started (by kernel_rfl) Tryz.func6
    (ChangeSpec.witness_shaped (enc := enc) (C := Tryz.checked) (os := os) (X := fun w _ => laidMetH Tryz.prog laidL w) false (World.laidAll Tryz.prog os laidL) #[.agg #[.string ⟨#[]⟩, .string ⟨#[]⟩], .agg #[.string ⟨#[]⟩, .string ⟨#[]⟩, .string ⟨#[]⟩]] 8 (World.laidAll_os _ _ _)
      laid_shaped (by kernel_rfl) (by kernel_rfl) (by kernel_rfl)
      laid_met) ?_
  intro W base args ds gs before hval0 hW hL hs
  have hval : ∀ (j : Nat) t v, Tryz.f6.params[j]? = some t → args[j]? = some v → Value.okWide Tryz.prog W .any base t v := hval0
  have hW' := hW
  obtain ⟨p, q, hA0, hV, rfl, hfz, hnd⟩ := hW
  have hA : DataW.TrodAll enc Tryz.prog W 0 (fun _ => true) true Tryz.f6.params.toList args.toList ds p := hA0
  rw [Tryz.params6] at hA hval
  obtain ⟨v0, v1, d0, d1, p0, p1, rfl, rfl, rfl, h0, h1⟩ := trodAll_two hA
  obtain ⟨rfl, rfl⟩ := trodVars_none hV
  obtain ⟨a0, a1, rfl, rfl, rfl, ma⟩ := open_att (hval 0 _ _ rfl rfl) h0
  obtain ⟨b0, b1, b2, rfl, rfl, rfl, mb⟩ := open_vec (hval 1 _ _ rfl rfl) h1
  refine (la_mirrors a0 a1 b0 b1 b2 W (env_of_laid hL hs) ma mb).mono fun e W' ⟨he, hw⟩ => ?_
  subst he
  refine ⟨_, rfl, _, _, _, [], [], [], hW', ?_, ?_, rfl, hw.frame _, fun h => by cases h⟩
  · exact trodAll_mk1 (shut_bool Tryz.underlying4 true)
  · exact trodAll_mk2 (shut_att ma) (shut_vec mb)

theorem attitudeMirrors_named : Tryz.prog.funcNamed Rows.attitudeMirrorsRow.func = some 6 := by kernel_rfl
theorem attitudeMirrors_reach : ((Rows.attitudeMirrorsRow.inPlace == Tryz.prog.inPlace 6) && (Rows.attitudeMirrorsRow.unfollowed == Tryz.prog.unfollowed 6) && (Rows.attitudeMirrorsRow.recurses == Tryz.prog.recurses 6) && (Rows.attitudeMirrorsRow.named == Tryz.prog.varsNamed 6)) = true := by kernel_rfl
theorem attitudeMirrors_joined : joinedFacts Tryz.prog 6 Tryz.f6 Rows.attitudeMirrorsSpec Rows.attitudeMirrorsRow = true :=
  joined_of (by kernel_rfl) cf_laid cf_maps (by kernel_rfl) (by kernel_rfl) rfl cf_stops rfl cf_knobs attitudeMirrors_reach (by kernel_rfl) cf_keys rfl cf_heard cf_enter cf_lift cf_make (by kernel_rfl)
theorem attitudeMirrors_inst : Tryz.f6.isInstance Tryz.prog Rows.attitudeMirrorsRow.origin Rows.attitudeMirrorsRow.targs := of_decide_eq_true (by kernel_rfl)
theorem attitudeMirrors_wrap : Tryz.f6.isWrapper Tryz.prog Rows.attitudeMirrorsRow.wrapper Rows.attitudeMirrorsRow.mainSum := by
  unfold Func.isWrapper
  first | (rw [if_pos (by decide +kernel)]; kernel_rfl) | (rw [if_neg (by decide +kernel)]; exact ⟨rfl, rfl⟩)
theorem attitudeMirrors_row : Rows.AttitudeMirrorsSaid :=
  OpenClaim.holds_of_wide 6 Tryz.f6 rfl rfl rfl rfl rfl rfl rfl ⟨rfl, rfl, rfl, rfl, rfl⟩ rfl rfl rfl rfl rfl attitudeMirrors_named Tryz.func6 attitudeMirrors_joined attitudeMirrors_inst attitudeMirrors_wrap
    (fun os started H enc _ => attitudeMirrors_lifted os started H enc)

theorem attitudeMirrors_wf : Rows.attitudeMirrorsRow.wfByText (OpenSpec.ofChange Rows.attitudeMirrorsSpec) = true := by kernel_rfl
theorem attitudeMirrors_main : Tryz.prog.mainIs = some (true, "f6834b59d3a32dc1caebcdd56e5cc166c0610937adb86b9103e646233883aa4a".toList) := by kernel_rfl
theorem attitudeMirrors_goes : false = Rows.attitudeMirrorsRow.goesBy Tryz.prog := by kernel_rfl
theorem attitudeMirrors_looks : true = Tryz.prog.looks [] := by kernel_rfl
theorem attitudeMirrors_wants : ([24, 28].all fun u => !Tryz.prog.wantsStandIn u) = true := by kernel_rfl
theorem attitudeMirrors_holds : Rows.AttitudeMirrorsCardSaid :=
  Claim7.holds_tied_plain_at .later [] [.data, .data, .data, .sentinel, .sentinel] true (true, "f6834b59d3a32dc1caebcdd56e5cc166c0610937adb86b9103e646233883aa4a") true
    attitudeMirrors_row (fun _ h => by cases h) attitudeMirrors_wf (fun _ h => by cases h) attitudeMirrors_row_tie rfl ⟨rfl, rfl⟩ attitudeMirrors_main rfl
    (fun f fn hf hfn => by
      obtain rfl : f = 6 := Option.some.inj (Eq.trans (Eq.symm attitudeMirrors_named) hf) |>.symm
      obtain rfl : fn = Tryz.f6 := (Option.some.inj (Tryz.func6.symm.trans hfn)).symm
      exact ⟨attitudeMirrors_looks, fun j t ht => by
        rw [Tryz.params6] at ht
        have hm : t ∈ [24, 28] := by simpa using Array.mem_of_getElem? ht
        exact (show Tryz.prog.wantsStandIn t = false by simpa using List.all_eq_true.1 attitudeMirrors_wants t hm)⟩)
    attitudeMirrors_goes
#print axioms attitudeMirrors_holds
end Go.Proofs.YtgbabmkclojgeaaGreatDoor
