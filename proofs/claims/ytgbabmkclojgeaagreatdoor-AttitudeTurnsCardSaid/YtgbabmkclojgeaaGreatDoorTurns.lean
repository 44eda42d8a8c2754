/- Proved: garboardlaw16.AttitudeTurns returns true at every input, and each argument reads afterwards as it read before. Conditions: those of the given card alone (the five listed package-level variables hold, as the call begins, what the program's text lays in them). -/
import Derived.Test.YtgbabmkclojgeaaGreatDoorRcTurns
import Derived.Test.YtgbabmkclojgeaaGreatDoorQwAttitude
import Derived.Test.YtgbabmkclojgeaaGreatDoorPoLaw
import Derived.Carry
import Derived.Test.YtgbabmkclojgeaaGreatDoorTie
import Derived.Test.YtgbabmkclojgeaaGreatDoorCards
import Derived.SevenTiedAt
namespace Go.Proofs.YtgbabmkclojgeaaGreatDoor
open Go.ChangeShapes Go.WideShapes Go.ChangeAt Go.ChangeMaps Go.RowKit

set_option maxRecDepth 100000 in
theorem attitudeTurns_lifted (os : Os) (started : os.Started) (H : Type) (enc : TypeId × Value → H) :
    ReturnsInHanded {} Tryz.checked os 9 .any (fun w args => (Rows.attitudeTurnsSpec.pre enc Tryz.prog Tryz.f9 [] false w args ∧ laidMetH Tryz.prog laidL w) ∧ sizedMet enc Tryz.prog Tryz.f9 (OpenSpec.ofChange Rows.attitudeTurnsSpec) false w args)
      (Rows.attitudeTurnsSpec.post enc Tryz.prog Tryz.f9 false true false false) := by
  refine handed_and_shaped (C := Tryz.checked) (X := fun w _ => laidMetH Tryz.prog laidL w) (fun _ _ _ hh h => h.of_heap hh) own started (by kernel_rfl) Tryz.func9
    (ChangeSpec.witness_shaped (enc := enc) (C := Tryz.checked) (os := os) (X := fun w _ => laidMetH Tryz.prog laidL w) false (World.laidAll Tryz.prog os laidL) #[.agg #[.string ⟨#[]⟩, .string ⟨#[]⟩], .agg #[.string ⟨#[]⟩, .string ⟨#[]⟩, .string ⟨#[]⟩]] 8 (World.laidAll_os _ _ _)
      laid_shaped (by kernel_rfl) (by kernel_rfl) (by kernel_rfl)
      laid_met) ?_
  intro W base args ds gs before hval0 hW hL hs
  have hval : ∀ (j : Nat) t v, Tryz.f9.params[j]? = some t → args[j]? = some v → Value.okWide Tryz.prog W .any base t v := hval0
  have hW' := hW
  obtain ⟨p, q, hA0, hV, rfl, hfz, hnd⟩ := hW
  have hA : DataW.TrodAll enc Tryz.prog W 0 (fun _ => true) true Tryz.f9.params.toList args.toList ds p := hA0
  rw [Tryz.params9] at hA hval
  obtain ⟨v0, v1, d0, d1, p0, p1, rfl, rfl, rfl, h0, h1⟩ := trodAll_two hA
  obtain ⟨rfl, rfl⟩ := trodVars_none hV
  obtain ⟨a0, a1, rfl, rfl, rfl, ma⟩ := open_att (hval 0 _ _ rfl rfl) h0
  obtain ⟨b0, b1, b2, rfl, rfl, rfl, mb⟩ := open_vec (hval 1 _ _ rfl rfl) h1
  refine (la_turns a0 a1 b0 b1 b2 W (env_of_laid hL hs) ma mb).mono fun e W' ⟨he, hw⟩ => ?_
  subst he
  refine ⟨_, rfl, _, _, _, [], [], [], hW', ?_, ?_, rfl, hw.frame _, fun h => by cases h⟩
  · exact trodAll_mk1 (shut_bool Tryz.underlying4 true)
  · exact trodAll_mk2 (shut_att ma) (shut_vec mb)

theorem attitudeTurns_named : Tryz.prog.funcNamed Rows.attitudeTurnsRow.func = some 9 := by kernel_rfl
theorem attitudeTurns_reach : ((Rows.attitudeTurnsRow.inPlace == Tryz.prog.inPlace 9) && (Rows.attitudeTurnsRow.unfollowed == Tryz.prog.unfollowed 9) && (Rows.attitudeTurnsRow.recurses == Tryz.prog.recurses 9) && (Rows.attitudeTurnsRow.named == Tryz.prog.varsNamed 9)) = true := by kernel_rfl
theorem attitudeTurns_joined : joinedFacts Tryz.prog 9 Tryz.f9 Rows.attitudeTurnsSpec Rows.attitudeTurnsRow = true :=
  joined_of (by kernel_rfl) cf_laid cf_maps (by kernel_rfl) (by kernel_rfl) rfl cf_stops rfl cf_knobs attitudeTurns_reach (by kernel_rfl) cf_keys rfl cf_heard cf_enter cf_lift cf_make (by kernel_rfl)
theorem attitudeTurns_inst : Tryz.f9.isInstance Tryz.prog Rows.attitudeTurnsRow.origin Rows.attitudeTurnsRow.targs := of_decide_eq_true (by kernel_rfl)
theorem attitudeTurns_wrap : Tryz.f9.isWrapper Tryz.prog Rows.attitudeTurnsRow.wrapper Rows.attitudeTurnsRow.mainSum := by
  unfold Func.isWrapper
  first | (rw [if_pos (by decide +kernel)]; kernel_rfl) | (rw [if_neg (by decide +kernel)]; exact ⟨rfl, rfl⟩)
theorem attitudeTurns_row : Rows.AttitudeTurnsSaid :=
  OpenClaim.holds_of_wide 9 Tryz.f9 rfl rfl rfl rfl rfl rfl rfl ⟨rfl, rfl, rfl, rfl, rfl⟩ rfl rfl rfl rfl rfl attitudeTurns_named Tryz.func9 attitudeTurns_joined attitudeTurns_inst attitudeTurns_wrap
    (fun os started H enc _ => attitudeTurns_lifted os started H enc)

theorem attitudeTurns_wf : Rows.attitudeTurnsRow.wfByText (OpenSpec.ofChange Rows.attitudeTurnsSpec) = true := by kernel_rfl
theorem attitudeTurns_main : Tryz.prog.mainIs = some (true, "f6834b59d3a32dc1caebcdd56e5cc166c0610937adb86b9103e646233883aa4a".toList) := by kernel_rfl
theorem attitudeTurns_goes : false = Rows.attitudeTurnsRow.goesBy Tryz.prog := by kernel_rfl
theorem attitudeTurns_looks : true = Tryz.prog.looks [] := by kernel_rfl
theorem attitudeTurns_wants : ([24, 28].all fun u => !Tryz.prog.wantsStandIn u) = true := by kernel_rfl
theorem attitudeTurns_holds : Rows.AttitudeTurnsCardSaid :=
  Claim7.holds_tied_plain_at .later [] [.data, .data, .data, .sentinel, .sentinel] true (true, "f6834b59d3a32dc1caebcdd56e5cc166c0610937adb86b9103e646233883aa4a") true
    attitudeTurns_row (fun _ h => by cases h) attitudeTurns_wf (fun _ h => by cases h) attitudeTurns_row_tie rfl ⟨rfl, rfl⟩ attitudeTurns_main rfl
    (fun f fn hf hfn => by
      obtain rfl : f = 9 := Option.some.inj (Eq.trans (Eq.symm attitudeTurns_named) hf) |>.symm
      obtain rfl : fn = Tryz.f9 := (Option.some.inj (Tryz.func9.symm.trans hfn)).symm
      exact ⟨attitudeTurns_looks, fun j t ht => by
        rw [Tryz.params9] at ht
        have hm : t ∈ [24, 28] := by simpa using Array.mem_of_getElem? ht
        exact (show Tryz.prog.wantsStandIn t = false by simpa using List.all_eq_true.1 attitudeTurns_wants t hm)⟩)
    attitudeTurns_goes
#print axioms attitudeTurns_holds
end Go.Proofs.YtgbabmkclojgeaaGreatDoor
