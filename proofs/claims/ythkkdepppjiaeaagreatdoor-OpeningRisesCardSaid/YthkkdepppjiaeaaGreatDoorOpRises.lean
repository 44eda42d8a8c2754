/- Proved: garboardlaw31.OpeningRises returns true at every input, and each argument reads afterwards as it read before. Conditions: those of the given card alone (the five listed package-level variables hold, as the call begins, what the program's text lays in them). -/
import Derived.Test.YthkkdepppjiaeaaGreatDoorSfRises
import Derived.Test.YthkkdepppjiaeaaGreatDoorSdOpening
import Derived.Test.YthkkdepppjiaeaaGreatDoorPoLaw
import Derived.Carry
import Derived.Test.YthkkdepppjiaeaaGreatDoorTie
import Derived.Test.YthkkdepppjiaeaaGreatDoorCards
import Derived.SevenTiedAt
namespace Go.Proofs.YthkkdepppjiaeaaGreatDoor
open Go.ChangeShapes Go.WideShapes Go.ChangeAt Go.ChangeMaps Go.RowKit

set_option maxRecDepth 100000 in
theorem openingRises_lifted (os : Os) (started : os.Started) (H : Type) (enc : TypeId × Value → H) :
    ReturnsInHanded {} Tryz.checked os 3 .any (fun w args => (Rows.openingRisesSpec.pre enc Tryz.prog Tryz.f3 [] false w args ∧ laidMetH Tryz.prog laidL w) ∧ sizedMet enc Tryz.prog Tryz.f3 (OpenSpec.ofChange Rows.openingRisesSpec) false w args)
      (Rows.openingRisesSpec.post enc Tryz.prog Tryz.f3 false true false false) := by
  refine handed_and_shaped (C := Tryz.checked) (X := fun w _ => laidMetH Tryz.prog laidL w) (fun _ _ _ hh h => h.of_heap hh) own started (by kernel_rfl) Tryz.func3
    (ChangeSpec.witness_shaped (enc := enc) (C := Tryz.checked) (os := os) (X := fun w _ => laidMetH Tryz.prog laidL w) false (World.laidAll Tryz.prog os laidL) #[.agg #[.int .i64 0, .int .i64 0, .int .i64 0, .int .i64 0, .string ⟨#[]⟩, .string ⟨#[]⟩, .string ⟨#[]⟩], .agg #[.string ⟨#[]⟩, .string ⟨#[]⟩, .string ⟨#[]⟩, .string ⟨#[]⟩], .string ⟨#[]⟩] 8 (World.laidAll_os _ _ _)
      laid_shaped (by kernel_rfl) (by kernel_rfl) (by kernel_rfl)
      laid_met) ?_
  intro W base args ds gs before hval0 hW hL hs
  have hval : ∀ (j : Nat) t v, Tryz.f3.params[j]? = some t → args[j]? = some v → Value.okWide Tryz.prog W .any base t v := hval0
  have hW' := hW
  obtain ⟨p, q, hA0, hV, rfl, hfz, hnd⟩ := hW
  have hA : DataW.TrodAll enc Tryz.prog W 0 (fun _ => true) true Tryz.f3.params.toList args.toList ds p := hA0
  rw [Tryz.params3] at hA hval
  obtain ⟨v0, v1, v2, d0, d1, d2, p0, p1, p2, rfl, rfl, rfl, h0, h1, h2⟩ := trodAll_three hA
  obtain ⟨rfl, rfl⟩ := trodVars_none hV
  have h1k := h1
  have hlt1 : ∀ x ∈ p1, x.block < W.heap.size := fun x hx => by simpa using hW'.lt x (by simp [hx])
  have h0k := h0
  have hlt0 : ∀ x ∈ p0, x.block < W.heap.size := fun x hx => by simpa using hW'.lt x (by simp [hx])
  obtain ⟨aO, rfl, ma⟩ := open_opn (hval 0 _ _ rfl rfl) h0
  obtain ⟨b0, b1, b2, b3, rfl, mb⟩ := open_pos (hval 1 _ _ rfl rfl) h1
  obtain ⟨c, rfl, rfl, rfl, mc⟩ := open_rat (hval 2 _ _ rfl rfl) h2
  refine (la_op_rises aO b0 b1 b2 b3 c W (env_of_laid hL hs) ma mb mc).mono fun e W' ⟨he, hw⟩ => ?_
  subst he
  refine ⟨_, rfl, _, _, _, [], (p0 ++ (p1 ++ ([]))), [], hW', ?_, ?_, rfl, hw.frame _, fun h => by cases h⟩
  · exact trodAll_mk1 (shut_bool Tryz.underlying4 true)
  · exact trodAll_mk3 (Below.trod cf_laid (by kernel_rfl) (of_decide_eq_true (by kernel_rfl)) h0k hw hlt0) (Below.trod cf_laid (by kernel_rfl) (of_decide_eq_true (by kernel_rfl)) h1k hw hlt1) (shut_rat mc)

theorem openingRises_named : Tryz.prog.funcNamed Rows.openingRisesRow.func = some 3 := by kernel_rfl
theorem openingRises_reach : ((Rows.openingRisesRow.inPlace == Tryz.prog.inPlace 3) && (Rows.openingRisesRow.unfollowed == Tryz.prog.unfollowed 3) && (Rows.openingRisesRow.recurses == Tryz.prog.recurses 3) && (Rows.openingRisesRow.named == Tryz.prog.varsNamed 3)) = true := by kernel_rfl
theorem openingRises_joined : joinedFacts Tryz.prog 3 Tryz.f3 Rows.openingRisesSpec Rows.openingRisesRow = true :=
  joined_of (by kernel_rfl) cf_laid cf_maps (by kernel_rfl) (by kernel_rfl) rfl cf_stops rfl cf_knobs openingRises_reach (by kernel_rfl) cf_keys rfl cf_heard cf_enter cf_lift cf_make (by kernel_rfl)
theorem openingRises_inst : Tryz.f3.isInstance Tryz.prog Rows.openingRisesRow.origin Rows.openingRisesRow.targs := of_decide_eq_true (by kernel_rfl)
theorem openingRises_wrap : Tryz.f3.isWrapper Tryz.prog Rows.openingRisesRow.wrapper Rows.openingRisesRow.mainSum := by
  unfold Func.isWrapper
  first | (rw [if_pos (by decide +kernel)]; kernel_rfl) | (rw [if_neg (by decide +kernel)]; exact ⟨rfl, rfl⟩)
theorem openingRises_row : Rows.OpeningRisesSaid :=
  OpenClaim.holds_of_wide 3 Tryz.f3 rfl rfl rfl rfl rfl rfl rfl ⟨rfl, rfl, rfl, rfl, rfl⟩ rfl rfl rfl rfl rfl openingRises_named Tryz.func3 openingRises_joined openingRises_inst openingRises_wrap
    (fun os started H enc _ => openingRises_lifted os started H enc)

theorem openingRises_wf : Rows.openingRisesRow.wfByText (OpenSpec.ofChange Rows.openingRisesSpec) = true := by kernel_rfl
theorem openingRises_main : Tryz.prog.mainIs = some (true, "7265d2a93afa579c9340c889e0bb7d3c71767742125bf655704527e1a27fcd2e".toList) := by kernel_rfl
theorem openingRises_goes : false = Rows.openingRisesRow.goesBy Tryz.prog := by kernel_rfl
theorem openingRises_looks : true = Tryz.prog.looks [] := by kernel_rfl
theorem openingRises_wants : ([26, 32, 22].all fun u => !Tryz.prog.wantsStandIn u) = true := by kernel_rfl
theorem openingRises_holds : Rows.OpeningRisesCardSaid :=
  Claim7.holds_tied_plain_at .later [] [.data, .data, .data, .sentinel, .sentinel] true (true, "7265d2a93afa579c9340c889e0bb7d3c71767742125bf655704527e1a27fcd2e") true
    openingRises_row (fun _ h => by cases h) openingRises_wf (fun _ h => by cases h) openingRises_row_tie rfl ⟨rfl, rfl⟩ openingRises_main rfl
    (fun f fn hf hfn => by
      obtain rfl : f = 3 := Option.some.inj (Eq.trans (Eq.symm openingRises_named) hf) |>.symm
      obtain rfl : fn = Tryz.f3 := (Option.some.inj (Tryz.func3.symm.trans hfn)).symm
      exact ⟨openingRises_looks, fun j t ht => by
        rw [Tryz.params3] at ht
        have hm : t ∈ [26, 32, 22] := by simpa using Array.mem_of_getElem? ht
        exact (show Tryz.prog.wantsStandIn t = false by simpa using List.all_eq_true.1 openingRises_wants t hm)⟩)
    openingRises_goes
#print axioms openingRises_holds
end Go.Proofs.YthkkdepppjiaeaaGreatDoor
