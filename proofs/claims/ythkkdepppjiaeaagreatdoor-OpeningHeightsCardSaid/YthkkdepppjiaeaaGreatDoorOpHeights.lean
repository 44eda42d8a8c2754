/- Proved: garboardlaw31.OpeningHeights returns true at every input, and each argument reads afterwards as it read before. Conditions: those of the given card alone (the five listed package-level variables hold, as the call begins, what the program's text lays in them). -/
import Derived.Test.YthkkdepppjiaeaaGreatDoorShHeights
import Derived.Test.YthkkdepppjiaeaaGreatDoorSdOpening
import Derived.Test.YthkkdepppjiaeaaGreatDoorPoLaw
import Derived.Carry
import Derived.Test.YthkkdepppjiaeaaGreatDoorTie
import Derived.Test.YthkkdepppjiaeaaGreatDoorCards
import Derived.SevenTiedAt
namespace Go.Proofs.YthkkdepppjiaeaaGreatDoor
open Go.ChangeShapes Go.WideShapes Go.ChangeAt Go.ChangeMaps Go.RowKit

set_option maxRecDepth 100000 in
theorem openingHeights_lifted (os : Os) (started : os.Started) (H : Type) (enc : TypeId × Value → H) :
    ReturnsInHanded {} Tryz.checked os 6 .any (fun w args => (Rows.openingHeightsSpec.pre enc Tryz.prog Tryz.f6 [] false w args ∧ laidMetH Tryz.prog laidL w) ∧ sizedMet enc Tryz.prog Tryz.f6 (OpenSpec.ofChange Rows.openingHeightsSpec) false w args)
      (Rows.openingHeightsSpec.post enc Tryz.prog Tryz.f6 false true false false) := by
  refine handed_and_shaped (C := Tryz.checked) (X := fun w _ => laidMetH Tryz.prog laidL w) (fun _ _ _ hh h => h.of_heap hh) own started (by kernel_rfl) Tryz.func6
    (ChangeSpec.witness_shaped (enc := enc) (C := Tryz.checked) (os := os) (X := fun w _ => laidMetH Tryz.prog laidL w) false (World.laidAll Tryz.prog os laidL) #[.slice none 0 0, .agg #[.int .i64 0, .int .i64 0, .int .i64 0, .int .i64 0, .string ⟨#[]⟩, .string ⟨#[]⟩, .string ⟨#[]⟩], .agg #[.string ⟨#[]⟩, .string ⟨#[]⟩, .string ⟨#[]⟩, .string ⟨#[]⟩], .bool false] 8 (World.laidAll_os _ _ _)
      laid_shaped (by kernel_rfl) (by kernel_rfl) (by kernel_rfl)
      laid_met) ?_
  intro W base args ds gs before hval0 hW hL hs
  have hval : ∀ (j : Nat) t v, Tryz.f6.params[j]? = some t → args[j]? = some v → Value.okWide Tryz.prog W .any base t v := hval0
  have hW' := hW
  obtain ⟨p, q, hA0, hV, rfl, hfz, hnd⟩ := hW
  have hA : DataW.TrodAll enc Tryz.prog W 0 (fun _ => true) true Tryz.f6.params.toList args.toList ds p := hA0
  rw [Tryz.params6] at hA hval
  obtain ⟨v0, v1, v2, v3, d0, d1, d2, d3, p0, p1, p2, p3, rfl, rfl, rfl, h0, h1, h2, h3⟩ := trodAll_four hA
  obtain ⟨rfl, rfl⟩ := trodVars_none hV
  have h2k := h2
  have hlt2 : ∀ x ∈ p2, x.block < W.heap.size := fun x hx => by simpa using hW'.lt x (by simp [hx])
  have h1k := h1
  have hlt1 : ∀ x ∈ p1, x.block < W.heap.size := fun x hx => by simpa using hW'.lt x (by simp [hx])
  have h0k := h0
  have hlt0 : ∀ x ∈ p0, x.block < W.heap.size := fun x hx => by simpa using hW'.lt x (by simp [hx])
  obtain ⟨aA, an, ac, aT, rfl, maa, mal, man, ma⟩ := open_opns (hval 0 _ _ rfl rfl) h0
  obtain ⟨bO, rfl, mb⟩ := open_opn (hval 1 _ _ rfl rfl) h1
  obtain ⟨c0, c1, c2, c3, rfl, mc⟩ := open_pos (hval 2 _ _ rfl rfl) h2
  obtain ⟨d, rfl, rfl, rfl⟩ := open_bool Tryz.underlying4 (hval 3 _ _ rfl rfl) h3
  refine (la_op_heights aA an ac aT bO c0 c1 c2 c3 d W (env_of_laid hL hs) maa mal man ma mb mc).mono fun e W' ⟨he, hw⟩ => ?_
  subst he
  refine ⟨_, rfl, _, _, _, [], (p0 ++ (p1 ++ (p2 ++ ([])))), [], hW', ?_, ?_, rfl, hw.frame _, fun h => by cases h⟩
  · exact trodAll_mk1 (shut_bool Tryz.underlying4 true)
  · exact trodAll_mk4 (Below.trod cf_laid (by kernel_rfl) (of_decide_eq_true (by kernel_rfl)) h0k hw hlt0) (Below.trod cf_laid (by kernel_rfl) (of_decide_eq_true (by kernel_rfl)) h1k hw hlt1) (Below.trod cf_laid (by kernel_rfl) (of_decide_eq_true (by kernel_rfl)) h2k hw hlt2) (shut_bool Tryz.underlying4 d)

theorem openingHeights_named : Tryz.prog.funcNamed Rows.openingHeightsRow.func = some 6 := by kernel_rfl
theorem openingHeights_reach : ((Rows.openingHeightsRow.inPlace == Tryz.prog.inPlace 6) && (Rows.openingHeightsRow.unfollowed == Tryz.prog.unfollowed 6) && (Rows.openingHeightsRow.recurses == Tryz.prog.recurses 6) && (Rows.openingHeightsRow.named == Tryz.prog.varsNamed 6)) = true := by kernel_rfl
theorem openingHeights_joined : joinedFacts Tryz.prog 6 Tryz.f6 Rows.openingHeightsSpec Rows.openingHeightsRow = true :=
  joined_of (by kernel_rfl) cf_laid cf_maps (by kernel_rfl) (by kernel_rfl) rfl cf_stops rfl cf_knobs openingHeights_reach (by kernel_rfl) cf_keys rfl cf_heard cf_enter cf_lift cf_make (by kernel_rfl)
theorem openingHeights_inst : Tryz.f6.isInstance Tryz.prog Rows.openingHeightsRow.origin Rows.openingHeightsRow.targs := of_decide_eq_true (by kernel_rfl)
theorem openingHeights_wrap : Tryz.f6.isWrapper Tryz.prog Rows.openingHeightsRow.wrapper Rows.openingHeightsRow.mainSum := by
  unfold Func.isWrapper
  first | (rw [if_pos (by decide +kernel)]; kernel_rfl) | (rw [if_neg (by decide +kernel)]; exact ⟨rfl, rfl⟩)
theorem openingHeights_row : Rows.OpeningHeightsSaid :=
  OpenClaim.holds_of_wide 6 Tryz.f6 rfl rfl rfl rfl rfl rfl rfl ⟨rfl, rfl, rfl, rfl, rfl⟩ rfl rfl rfl rfl rfl openingHeights_named Tryz.func6 openingHeights_joined openingHeights_inst openingHeights_wrap
    (fun os started H enc _ => openingHeights_lifted os started H enc)

theorem openingHeights_wf : Rows.openingHeightsRow.wfByText (OpenSpec.ofChange Rows.openingHeightsSpec) = true := by kernel_rfl
theorem openingHeights_main : Tryz.prog.mainIs = some (true, "7265d2a93afa579c9340c889e0bb7d3c71767742125bf655704527e1a27fcd2e".toList) := by kernel_rfl
theorem openingHeights_goes : false = Rows.openingHeightsRow.goesBy Tryz.prog := by kernel_rfl
theorem openingHeights_looks : true = Tryz.prog.looks [] := by kernel_rfl
theorem openingHeights_wants : ([62, 26, 32, 4].all fun u => !Tryz.prog.wantsStandIn u) = true := by kernel_rfl
theorem openingHeights_holds : Rows.OpeningHeightsCardSaid :=
  Claim7.holds_tied_plain_at .later [] [.data, .data, .data, .sentinel, .sentinel] true (true, "7265d2a93afa579c9340c889e0bb7d3c71767742125bf655704527e1a27fcd2e") true
    openingHeights_row (fun _ h => by cases h) openingHeights_wf (fun _ h => by cases h) openingHeights_row_tie rfl ⟨rfl, rfl⟩ openingHeights_main rfl
    (fun f fn hf hfn => by
      obtain rfl : f = 6 := Option.some.inj (Eq.trans (Eq.symm openingHeights_named) hf) |>.symm
      obtain rfl : fn = Tryz.f6 := (Option.some.inj (Tryz.func6.symm.trans hfn)).symm
      exact ⟨openingHeights_looks, fun j t ht => by
        rw [Tryz.params6] at ht
        have hm : t ∈ [62, 26, 32, 4] := by simpa using Array.mem_of_getElem? ht
        exact (show Tryz.prog.wantsStandIn t = false by simpa using List.all_eq_true.1 openingHeights_wants t hm)⟩)
    openingHeights_goes
#print axioms openingHeights_holds
end Go.Proofs.YthkkdepppjiaeaaGreatDoor
