/- Proved: garboardlaw31.OpeningMirrors returns true at every input, and each argument reads afterwards as it read before. Conditions: those of the given card alone (the five listed package-level variables hold, as the call begins, what the program's text lays in them). -/
import Derived.Test.YthkkdepppjiaeaaGreatDoorSeMirrors
import Derived.Test.YthkkdepppjiaeaaGreatDoorSdOpening
import Derived.Test.YthkkdepppjiaeaaGreatDoorQwAttitude
import Derived.Test.YthkkdepppjiaeaaGreatDoorPoLaw
import Derived.Carry
import Derived.Test.YthkkdepppjiaeaaGreatDoorTie
import Derived.Test.YthkkdepppjiaeaaGreatDoorCards
import Derived.SevenTiedAt
namespace Go.Proofs.YthkkdepppjiaeaaGreatDoor
open Go.ChangeShapes Go.WideShapes Go.ChangeAt Go.ChangeMaps Go.RowKit

set_option maxRecDepth 100000 in
theorem openingMirrors_lifted (os : Os) (started : os.Started) (H : Type) (enc : TypeId × Value → H) :
    ReturnsInHanded {} Tryz.checked os 4 .any (fun w args => (Rows.openingMirrorsSpec.pre enc Tryz.prog Tryz.f4 [] false w args ∧ laidMetH Tryz.prog laidL w) ∧ sizedMet enc Tryz.prog Tryz.f4 (OpenSpec.ofChange Rows.openingMirrorsSpec) false w args)
      (Rows.openingMirrorsSpec.post enc Tryz.prog Tryz.f4 false true false false) := by
  refine handed_and_shaped (C := Tryz.checked) (X := fun w _ => laidMetH Tryz.prog laidL w) (fun _ _ _ hh h => h.of_heap hh) own started (by kernel_rfl) Tryz.func4
    (ChangeSpec.witness_shaped (enc := enc) (C := Tryz.checked) (os := os) (X := fun w _ => laidMetH Tryz.prog laidL w) false (World.laidAll Tryz.prog os laidL) #[.agg #[.int .i64 0, .int .i64 0, .int .i64 0, .int .i64 0, .string ⟨#[]⟩, .string ⟨#[]⟩, .string ⟨#[]⟩], .agg #[.string ⟨#[]⟩, .string ⟨#[]⟩]] 8 (World.laidAll_os _ _ _)
      laid_shaped (by kernel_rfl) (by kernel_rfl) (by kernel_rfl)
      laid_met) ?_
  intro W base args ds gs before hval0 hW hL hs
  have hval : ∀ (j : Nat) t v, Tryz.f4.params[j]? = some t → args[j]? = some v → Value.okWide Tryz.prog W .any base t v := hval0
  have hW' := hW
  obtain ⟨p, q, hA0, hV, rfl, hfz, hnd⟩ := hW
  have hA : DataW.TrodAll enc Tryz.prog W 0 (fun _ => true) true Tryz.f4.params.toList args.toList ds p := hA0
  rw [Tryz.params4] at hA hval
  obtain ⟨v0, v1, d0, d1, p0, p1, rfl, rfl, rfl, h0, h1⟩ := trodAll_two hA
  obtain ⟨rfl, rfl⟩ := trodVars_none hV
  have h0k := h0
  have hlt0 : ∀ x ∈ p0, x.block < W.heap.size := fun x hx => by simpa using hW'.lt x (by simp [hx])
  obtain ⟨aO, rfl, ma⟩ := open_opn (hval 0 _ _ rfl rfl) h0
  obtain ⟨b0, b1, rfl, rfl, rfl, mb⟩ := open_att (hval 1 _ _ rfl rfl) h1
  refine (la_op_mirrors aO b0 b1 W (env_of_laid hL hs) ma mb).mono fun e W' ⟨he, hw⟩ => ?_
  subst he
  refine ⟨_, rfl, _, _, _, [], (p0 ++ ([])), [], hW', ?_, ?_, rfl, hw.frame _, fun h => by cases h⟩
  · exact trodAll_mk1 (shut_bool Tryz.underlying4 true)
  · exact trodAll_mk2 (Below.trod cf_laid (by kernel_rfl) (of_decide_eq_true (by kernel_rfl)) h0k hw hlt0) (shut_att mb)

theorem openingMirrors_named : Tryz.prog.funcNamed Rows.openingMirrorsRow.func = some 4 := by kernel_rfl
theorem openingMirrors_reach : ((Rows.openingMirrorsRow.inPlace == Tryz.prog.inPlace 4) && (Rows.openingMirrorsRow.unfollowed == Tryz.prog.unfollowed 4) && (Rows.openingMirrorsRow.recurses == Tryz.prog.recurses 4) && (Rows.openingMirrorsRow.named == Tryz.prog.varsNamed 4)) = true := by kernel_rfl
theorem openingMirrors_joined : joinedFacts Tryz.prog 4 Tryz.f4 Rows.openingMirrorsSpec Rows.openingMirrorsRow = true :=
  joined_of (by kernel_rfl) cf_laid cf_maps (by kernel_rfl) (by kernel_rfl) rfl cf_stops rfl cf_knobs openingMirrors_reach (by kernel_rfl) cf_keys rfl cf_heard cf_enter cf_lift cf_make (by kernel_rfl)
theorem openingMirrors_inst : Tryz.f4.isInstance Tryz.prog Rows.openingMirrorsRow.origin Rows.openingMirrorsRow.targs := of_decide_eq_true (by kernel_rfl)
theorem openingMirrors_wrap : Tryz.f4.isWrapper Tryz.prog Rows.openingMirrorsRow.wrapper Rows.openingMirrorsRow.mainSum := by
  unfold Func.isWrapper
  first | (rw [if_pos (by decide +kernel)]; kernel_rfl) | (rw [if_neg (by decide +kernel)]; exact ⟨rfl, rfl⟩)
theorem openingMirrors_row : Rows.OpeningMirrorsSaid :=
  OpenClaim.holds_of_wide 4 Tryz.f4 rfl rfl rfl rfl rfl rfl rfl ⟨rfl, rfl, rfl, rfl, rfl⟩ rfl rfl rfl rfl rfl openingMirrors_named Tryz.func4 openingMirrors_joined openingMirrors_inst openingMirrors_wrap
    (fun os started H enc _ => openingMirrors_lifted os started H enc)

theorem openingMirrors_wf : Rows.openingMirrorsRow.wfByText (OpenSpec.ofChange Rows.openingMirrorsSpec) = true := by kernel_rfl
theorem openingMirrors_main : Tryz.prog.mainIs = some (true, "7265d2a93afa579c9340c889e0bb7d3c71767742125bf655704527e1a27fcd2e".toList) := by kernel_rfl
theorem openingMirrors_goes : false = Rows.openingMirrorsRow.goesBy Tryz.prog := by kernel_rfl
theorem openingMirrors_looks : true = Tryz.prog.looks [] := by kernel_rfl
theorem openingMirrors_wants : ([26, 28].all fun u => !Tryz.prog.wantsStandIn u) = true := by kernel_rfl
theorem openingMirrors_holds : Rows.OpeningMirrorsCardSaid :=
  Claim7.holds_tied_plain_at .later [] [.data, .data, .data, .sentinel, .sentinel] true (true, "7265d2a93afa579c9340c889e0bb7d3c71767742125bf655704527e1a27fcd2e") true
    openingMirrors_row (fun _ h => by cases h) openingMirrors_wf (fun _ h => by cases h) openingMirrors_row_tie rfl ⟨rfl, rfl⟩ openingMirrors_main rfl
    (fun f fn hf hfn => by
      obtain rfl : f = 4 := Option.some.inj (Eq.trans (Eq.symm openingMirrors_named) hf) |>.symm
      obtain rfl : fn = Tryz.f4 := (Option.some.inj (Tryz.func4.symm.trans hfn)).symm
      exact ⟨openingMirrors_looks, fun j t ht => by
        rw [Tryz.params4] at ht
        have hm : t ∈ [26, 28] := by simpa using Array.mem_of_getElem? ht
        exact (show Tryz.prog.wantsStandIn t = false by simpa using List.all_eq_true.1 openingMirrors_wants t hm)⟩)
    openingMirrors_goes
#print axioms openingMirrors_holds
end Go.Proofs.YthkkdepppjiaeaaGreatDoor
