/- Proved: garboardlaw31.OpeningBack returns true at every input, and each argument reads afterwards as it read before. Conditions: those of the given card alone (the seven listed package-level variables hold, as the call begins, what the program's text lays in them). -/
import Derived.Test.YthkkdepppjiaeaaGreatDoorSlBack
import Derived.Test.YthkkdepppjiaeaaGreatDoorSdOpening
import Derived.Test.YthkkdepppjiaeaaGreatDoorSmBack
import Derived.Test.YthkkdepppjiaeaaGreatDoorPoLaw
import Derived.Carry
import Derived.Test.YthkkdepppjiaeaaGreatDoorTie
import Derived.Test.YthkkdepppjiaeaaGreatDoorCards
import Derived.SevenTiedAt
namespace Go.Proofs.YthkkdepppjiaeaaGreatDoor
open Go.ChangeShapes Go.WideShapes Go.ChangeAt Go.ChangeMaps Go.RowKit

set_option maxRecDepth 100000 in
theorem openingBack_lifted (os : Os) (started : os.Started) (H : Type) (enc : TypeId × Value → H) :
    ReturnsInHanded {} Tryz.checked os 9 .any (fun w args => (Rows.openingBackSpec.pre enc Tryz.prog Tryz.f9 [] false w args ∧ laidMetH Tryz.prog laidL2 w) ∧ sizedMet enc Tryz.prog Tryz.f9 (OpenSpec.ofChange Rows.openingBackSpec) false w args)
      (Rows.openingBackSpec.post enc Tryz.prog Tryz.f9 false true false false) := by
  refine handed_and_shaped (C := Tryz.checked) (X := fun w _ => laidMetH Tryz.prog laidL2 w) (fun _ _ _ hh h => h.of_heap hh) own started (by kernel_rfl) Tryz.func9
    (ChangeSpec.witness_shaped (enc := enc) (C := Tryz.checked) (os := os) (X := fun w _ => laidMetH Tryz.prog laidL2 w) false (World.laidAll Tryz.prog os laidL2) #[.slice none 0 0, .string ⟨#[]⟩] 8 (World.laidAll_os _ _ _)
      laid_shaped2 (by kernel_rfl) (by kernel_rfl) (by kernel_rfl)
      laid_met2) ?_
  intro W base args ds gs before hval0 hW hL hs
  have hval : ∀ (j : Nat) t v, Tryz.f9.params[j]? = some t → args[j]? = some v → Value.okWide Tryz.prog W .any base t v := hval0
  have hW' := hW
  obtain ⟨p, q, hA0, hV, rfl, hfz, hnd⟩ := hW
  have hA : DataW.TrodAll enc Tryz.prog W 0 (fun _ => true) true Tryz.f9.params.toList args.toList ds p := hA0
  rw [Tryz.params9] at hA hval
  obtain ⟨v0, v1, d0, d1, p0, p1, rfl, rfl, rfl, h0, h1⟩ := trodAll_two hA
  obtain ⟨rfl, rfl⟩ := trodVars_none hV
  have h0k := h0
  have hlt0 : ∀ x ∈ p0, x.block < W.heap.size := fun x hx => by simpa using hW'.lt x (by simp [hx])
  obtain ⟨aA, an, ac, aT, rfl, maa, mal, man, ma⟩ := open_opns (hval 0 _ _ rfl rfl) h0
  obtain ⟨b, rfl, rfl, rfl, mb⟩ := open_string Tryz.underlying9 (hval 1 _ _ rfl rfl) h1
  refine (la_op_back aA an ac aT b W (envB_of_laid hL hs) maa mal man ma).mono fun e W' ⟨he, hw⟩ => ?_
  subst he
  refine ⟨_, rfl, _, _, _, [], (p0 ++ ([])), [], hW', ?_, ?_, rfl, hw.frame _, fun h => by cases h⟩
  · exact trodAll_mk1 (shut_bool Tryz.underlying4 true)
  · exact trodAll_mk2 (Below.trod cf_laid (by kernel_rfl) (of_decide_eq_true (by kernel_rfl)) h0k hw hlt0) (shut_string Tryz.underlying9 mb)

theorem openingBack_named : Tryz.prog.funcNamed Rows.openingBackRow.func = some 9 := by kernel_rfl
theorem openingBack_reach : ((Rows.openingBackRow.inPlace == Tryz.prog.inPlace 9) && (Rows.openingBackRow.unfollowed == Tryz.prog.unfollowed 9) && (Rows.openingBackRow.recurses == Tryz.prog.recurses 9) && (Rows.openingBackRow.named == Tryz.prog.varsNamed 9)) = true := by kernel_rfl
theorem openingBack_joined : joinedFacts Tryz.prog 9 Tryz.f9 Rows.openingBackSpec Rows.openingBackRow = true :=
  joined_of (by kernel_rfl) cf_laid cf_maps (by kernel_rfl) (by kernel_rfl) rfl cf_stops rfl cf_knobs openingBack_reach (by kernel_rfl) cf_keys rfl cf_heard cf_enter cf_lift cf_make (by kernel_rfl)
theorem openingBack_inst : Tryz.f9.isInstance Tryz.prog Rows.openingBackRow.origin Rows.openingBackRow.targs := of_decide_eq_true (by kernel_rfl)
theorem openingBack_wrap : Tryz.f9.isWrapper Tryz.prog Rows.openingBackRow.wrapper Rows.openingBackRow.mainSum := by
  unfold Func.isWrapper
  first | (rw [if_pos (by decide +kernel)]; kernel_rfl) | (rw [if_neg (by decide +kernel)]; exact ⟨rfl, rfl⟩)
theorem openingBack_row : Rows.OpeningBackSaid :=
  OpenClaim.holds_of_wide 9 Tryz.f9 rfl rfl rfl rfl rfl rfl rfl ⟨rfl, rfl, rfl, rfl, rfl⟩ rfl rfl rfl rfl rfl openingBack_named Tryz.func9 openingBack_joined openingBack_inst openingBack_wrap
    (fun os started H enc _ => openingBack_lifted os started H enc)

theorem openingBack_wf : Rows.openingBackRow.wfByText (OpenSpec.ofChange Rows.openingBackSpec) = true := by kernel_rfl
theorem openingBack_main : Tryz.prog.mainIs = some (true, "7265d2a93afa579c9340c889e0bb7d3c71767742125bf655704527e1a27fcd2e".toList) := by kernel_rfl
theorem openingBack_goes : false = Rows.openingBackRow.goesBy Tryz.prog := by kernel_rfl
theorem openingBack_looks : true = Tryz.prog.looks [] := by kernel_rfl
theorem openingBack_wants : ([62, 9].all fun u => !Tryz.prog.wantsStandIn u) = true := by kernel_rfl
theorem openingBack_holds : Rows.OpeningBackCardSaid :=
  Claim7.holds_tied_plain_at .later [] [.data, .data, .data, .data, .sentinel, .sentinel, .pinned] true (true, "7265d2a93afa579c9340c889e0bb7d3c71767742125bf655704527e1a27fcd2e") true
    openingBack_row (fun _ h => by cases h) openingBack_wf (fun _ h => by cases h) openingBack_row_tie rfl ⟨rfl, rfl⟩ openingBack_main rfl
    (fun f fn hf hfn => by
      obtain rfl : f = 9 := Option.some.inj (Eq.trans (Eq.symm openingBack_named) hf) |>.symm
      obtain rfl : fn = Tryz.f9 := (Option.some.inj (Tryz.func9.symm.trans hfn)).symm
      exact ⟨openingBack_looks, fun j t ht => by
        rw [Tryz.params9] at ht
        have hm : t ∈ [62, 9] := by simpa using Array.mem_of_getElem? ht
        exact (show Tryz.prog.wantsStandIn t = false by simpa using List.all_eq_true.1 openingBack_wants t hm)⟩)
    openingBack_goes
#print axioms openingBack_holds
end Go.Proofs.YthkkdepppjiaeaaGreatDoor
