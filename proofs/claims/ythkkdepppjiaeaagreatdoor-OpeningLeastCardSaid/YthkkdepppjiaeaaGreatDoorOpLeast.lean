/- Proved: garboardlaw31.OpeningLeast returns true at every input, and each argument reads afterwards as it read before. Conditions: those of the given card alone (the five listed package-level variables hold, as the call begins, what the program's text lays in them). -/
import Derived.Test.YthkkdepppjiaeaaGreatDoorSiLeast
import Derived.Test.YthkkdepppjiaeaaGreatDoorSdOpening
import Derived.Test.YthkkdepppjiaeaaGreatDoorPoLaw
import Derived.Carry
import Derived.Test.YthkkdepppjiaeaaGreatDoorTie
import Derived.Test.YthkkdepppjiaeaaGreatDoorCards
import Derived.SevenTiedAt
namespace Go.Proofs.YthkkdepppjiaeaaGreatDoor
open Go.ChangeShapes Go.WideShapes Go.ChangeAt Go.ChangeMaps Go.RowKit

set_option maxRecDepth 100000 in
theorem openingLeast_lifted (os : Os) (started : os.Started) (H : Type) (enc : TypeId × Value → H) :
    ReturnsInHanded {} Tryz.checked os 8 .any (fun w args => (Rows.openingLeastSpec.pre enc Tryz.prog Tryz.f8 [] false w args ∧ laidMetH Tryz.prog laidL w) ∧ sizedMet enc Tryz.prog Tryz.f8 (OpenSpec.ofChange Rows.openingLeastSpec) false w args)
      (Rows.openingLeastSpec.post enc Tryz.prog Tryz.f8 false true false false) := by
  refine handed_and_shaped (C := Tryz.checked) (X := fun w _ => laidMetH Tryz.prog laidL w) (fun _ _ _ hh h => h.of_heap hh) own started (by kernel_rfl) Tryz.func8
    (ChangeSpec.witness_shaped (enc := enc) (C := Tryz.checked) (os := os) (X := fun w _ => laidMetH Tryz.prog laidL w) false (World.laidAll Tryz.prog os laidL) #[.slice none 0 0, .agg #[.string ⟨#[]⟩, .string ⟨#[]⟩, .string ⟨#[]⟩, .string ⟨#[]⟩], .bool false] 8 (World.laidAll_os _ _ _)
      laid_shaped (by kernel_rfl) (by kernel_rfl) (by kernel_rfl)
      laid_met) ?_
  intro W base args ds gs before hval0 hW hL hs
  have hval : ∀ (j : Nat) t v, Tryz.f8.params[j]? = some t → args[j]? = some v → Value.okWide Tryz.prog W .any base t v := hval0
  have hW' := hW
  obtain ⟨p, q, hA0, hV, rfl, hfz, hnd⟩ := hW
  have hA : DataW.TrodAll enc Tryz.prog W 0 (fun _ => true) true Tryz.f8.params.toList args.toList ds p := hA0
  rw [Tryz.params8] at hA hval
  obtain ⟨v0, v1, v2, d0, d1, d2, p0, p1, p2, rfl, rfl, rfl, h0, h1, h2⟩ := trodAll_three hA
  obtain ⟨rfl, rfl⟩ := trodVars_none hV
  have h1k := h1
  have hlt1 : ∀ x ∈ p1, x.block < W.heap.size := fun x hx => by simpa using hW'.lt x (by simp [hx])
  have h0k := h0
  have hlt0 : ∀ x ∈ p0, x.block < W.heap.size := fun x hx => by simpa using hW'.lt x (by simp [hx])
  obtain ⟨aA, an, ac, aT, rfl, maa, mal, man, ma⟩ := open_opns (hval 0 _ _ rfl rfl) h0
  obtain ⟨b0, b1, b2, b3, rfl, mb⟩ := open_pos (hval 1 _ _ rfl rfl) h1
  obtain ⟨c, rfl, rfl, rfl⟩ := open_bool Tryz.underlying4 (hval 2 _ _ rfl rfl) h2
  refine (la_op_least aA an ac aT b0 b1 b2 b3 c W (env_of_laid hL hs) maa mal man ma mb).mono fun e W' ⟨he, hw⟩ => ?_
  subst he
  refine ⟨_, rfl, _, _, _, [], (p0 ++ (p1 ++ ([]))), [], hW', ?_, ?_, rfl, hw.frame _, fun h => by cases h⟩
  · exact trodAll_mk1 (shut_bool Tryz.underlying4 true)
  · exact trodAll_mk3 (Below.trod cf_laid (by kernel_rfl) (of_decide_eq_true (by kernel_rfl)) h0k hw hlt0) (Below.trod cf_laid (by kernel_rfl) (of_decide_eq_true (by kernel_rfl)) h1k hw hlt1) (shut_bool Tryz.underlying4 c)

theorem openingLeast_named : Tryz.prog.funcNamed Rows.openingLeastRow.func = some 8 := by kernel_rfl
theorem openingLeast_reach : ((Rows.openingLeastRow.inPlace == Tryz.prog.inPlace 8) && (Rows.openingLeastRow.unfollowed == Tryz.prog.unfollowed 8) && (Rows.openingLeastRow.recurses == Tryz.prog.recurses 8) && (Rows.openingLeastRow.named == Tryz.prog.varsNamed 8)) = true := by kernel_rfl
theorem openingLeast_joined : joinedFacts Tryz.prog 8 Tryz.f8 Rows.openingLeastSpec Rows.openingLeastRow = true :=
  joined_of (by kernel_rfl) cf_laid cf_maps (by kernel_rfl) (by kernel_rfl) rfl cf_stops rfl cf_knobs openingLeast_reach (by kernel_rfl) cf_keys rfl cf_heard cf_enter cf_lift cf_make (by kernel_rfl)
theorem openingLeast_inst : Tryz.f8.isInstance Tryz.prog Rows.openingLeastRow.origin Rows.openingLeastRow.targs := of_decide_eq_true (by kernel_rfl)
theorem openingLeast_wrap : Tryz.f8.isWrapper Tryz.prog Rows.openingLeastRow.wrapper Rows.openingLeastRow.mainSum := by
  unfold Func.isWrapper
  first | (rw [if_pos (by decide +kernel)]; kernel_rfl) | (rw [if_neg (by decide +kernel)]; exact ⟨rfl, rfl⟩)
theorem openingLeast_row : Rows.OpeningLeastSaid :=
  OpenClaim.holds_of_wide 8 Tryz.f8 rfl rfl rfl rfl rfl rfl rfl ⟨rfl, rfl, rfl, rfl, rfl⟩ rfl rfl rfl rfl rfl openingLeast_named Tryz.func8 openingLeast_joined openingLeast_inst openingLeast_wrap
    (fun os started H enc _ => openingLeast_lifted os started H enc)

theorem openingLeast_wf : Rows.openingLeastRow.wfByText (OpenSpec.ofChange Rows.openingLeastSpec) = true := by kernel_rfl
theorem openingLeast_main : Tryz.prog.mainIs = some (true, "7265d2a93afa579c9340c889e0bb7d3c71767742125bf655704527e1a27fcd2e".toList) := by kernel_rfl
theorem openingLeast_goes : false = Rows.openingLeastRow.goesBy Tryz.prog := by kernel_rfl
theorem openingLeast_looks : true = Tryz.prog.looks [] := by kernel_rfl
theorem openingLeast_wants : ([62, 32, 4].all fun u => !Tryz.prog.wantsStandIn u) = true := by kernel_rfl
theorem openingLeast_holds : Rows.OpeningLeastCardSaid :=
  Claim7.holds_tied_plain_at .later [] [.data, .data, .data, .sentinel, .sentinel] true (true, "7265d2a93afa579c9340c889e0bb7d3c71767742125bf655704527e1a27fcd2e") true
    openingLeast_row (fun _ h => by cases h) openingLeast_wf (fun _ h => by cases h) openingLeast_row_tie rfl ⟨rfl, rfl⟩ openingLeast_main rfl
    (fun f fn hf hfn => by
      obtain rfl : f = 8 := Option.some.inj (Eq.trans (Eq.symm openingLeast_named) hf) |>.symm
      obtain rfl : fn = Tryz.f8 := (Option.some.inj (Tryz.func8.symm.trans hfn)).symm
      exact ⟨openingLeast_looks, fun j t ht => by
        rw [Tryz.params8] at ht
        have hm : t ∈ [62, 32, 4] := by simpa using Array.mem_of_getElem? ht
        exact (show Tryz.prog.wantsStandIn t = false by simpa using List.all_eq_true.1 openingLeast_wants t hm)⟩)
    openingLeast_goes
#print axioms openingLeast_holds
end Go.Proofs.YthkkdepppjiaeaaGreatDoor
