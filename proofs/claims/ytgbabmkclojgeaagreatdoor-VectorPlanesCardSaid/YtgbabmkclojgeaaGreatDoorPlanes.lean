/- Proved: garboardlaw11.VectorPlanes returns true at every input, and each argument reads afterwards as it read before. Conditions: those of the given card alone (the five listed package-level variables hold, as the call begins, what the program's text lays in them). -/
import Derived.Test.YtgbabmkclojgeaaGreatDoorQtPlanes
import Derived.Test.YtgbabmkclojgeaaGreatDoorPoLaw
import Derived.Carry
import Derived.Test.YtgbabmkclojgeaaGreatDoorTie
import Derived.Test.YtgbabmkclojgeaaGreatDoorCards
import Derived.SevenTiedAt
namespace Go.Proofs.YtgbabmkclojgeaaGreatDoor
open Go.ChangeShapes Go.WideShapes Go.ChangeAt Go.ChangeMaps Go.RowKit

set_option maxRecDepth 100000 in
theorem vectorPlanes_lifted (os : Os) (started : os.Started) (H : Type) (enc : TypeId × Value → H) :
    ReturnsInHanded {} Tryz.checked os 5 .any (fun w args => (Rows.vectorPlanesSpec.pre enc Tryz.prog Tryz.f5 [] false w args ∧ laidMetH Tryz.prog laidL w) ∧ sizedMet enc Tryz.prog Tryz.f5 (OpenSpec.ofChange Rows.vectorPlanesSpec) false w args)
      (Rows.vectorPlanesSpec.post enc Tryz.prog Tryz.f5 false true false false) := by
  refine handed_and_shaped (C := Tryz.checked) (X := fun w _ => laidMetH Tryz.prog laidL w) (fun _ _ _ hh h => h.of_heap hh) own started (by kernel_rfl) Tryz.func5
    (ChangeSpec.witness_shaped (enc := enc) (C := Tryz.checked) (os := os) (X := fun w _ => laidMetH Tryz.prog laidL w) false (World.laidAll Tryz.prog os laidL) #[.agg #[.string ⟨#[]⟩, .string ⟨#[]⟩, .string ⟨#[]⟩, .string ⟨#[]⟩], .agg #[.string ⟨#[]⟩, .string ⟨#[]⟩, .string ⟨#[]⟩], .agg #[.string ⟨#[]⟩, .string ⟨#[]⟩, .string ⟨#[]⟩], .agg #[.string ⟨#[]⟩, .string ⟨#[]⟩, .string ⟨#[]⟩]] 8 (World.laidAll_os _ _ _)
      laid_shaped (by kernel_rfl) (by kernel_rfl) (by kernel_rfl)
      laid_met) ?_
  intro W base args ds gs before hval0 hW hL hs
  have hval : ∀ (j : Nat) t v, Tryz.f5.params[j]? = some t → args[j]? = some v → Value.okWide Tryz.prog W .any base t v := hval0
  have hW' := hW
  obtain ⟨p, q, hA0, hV, rfl, hfz, hnd⟩ := hW
  have hA : DataW.TrodAll enc Tryz.prog W 0 (fun _ => true) true Tryz.f5.params.toList args.toList ds p := hA0
  rw [Tryz.params5] at hA hval
  obtain ⟨v0, v1, v2, v3, d0, d1, d2, d3, p0, p1, p2, p3, rfl, rfl, rfl, h0, h1, h2, h3⟩ := trodAll_four hA
  obtain ⟨rfl, rfl⟩ := trodVars_none hV
  obtain ⟨a0, a1, a2, a3, rfl, rfl, rfl, ma⟩ := open_pla (hval 0 _ _ rfl rfl) h0
  obtain ⟨b0, b1, b2, rfl, rfl, rfl, mb⟩ := open_vec (hval 1 _ _ rfl rfl) h1
  obtain ⟨c0, c1, c2, rfl, rfl, rfl, mc⟩ := open_vec (hval 2 _ _ rfl rfl) h2
  obtain ⟨d0, d1, d2, rfl, rfl, rfl, md⟩ := open_vec (hval 3 _ _ rfl rfl) h3
  refine (la_planes a0 a1 a2 a3 b0 b1 b2 c0 c1 c2 d0 d1 d2 W (env_of_laid hL hs) ma mb mc md).mono fun e W' ⟨he, hw⟩ => ?_
  subst he
  refine ⟨_, rfl, _, _, _, [], [], [], hW', ?_, ?_, rfl, hw.frame _, fun h => by cases h⟩
  · exact trodAll_mk1 (shut_bool Tryz.underlying4 true)
  · exact trodAll_mk4 (shut_pla ma) (shut_vec mb) (shut_vec mc) (shut_vec md)

theorem vectorPlanes_named : Tryz.prog.funcNamed Rows.vectorPlanesRow.func = some 5 := by kernel_rfl
theorem vectorPlanes_reach : ((Rows.vectorPlanesRow.inPlace == Tryz.prog.inPlace 5) && (Rows.vectorPlanesRow.unfollowed == Tryz.prog.unfollowed 5) && (Rows.vectorPlanesRow.recurses == Tryz.prog.recurses 5) && (Rows.vectorPlanesRow.named == Tryz.prog.varsNamed 5)) = true := by kernel_rfl
theorem vectorPlanes_joined : joinedFacts Tryz.prog 5 Tryz.f5 Rows.vectorPlanesSpec Rows.vectorPlanesRow = true :=
  joined_of (by kernel_rfl) cf_laid cf_maps (by kernel_rfl) (by kernel_rfl) rfl cf_stops rfl cf_knobs vectorPlanes_reach (by kernel_rfl) cf_keys rfl cf_heard cf_enter cf_lift cf_make (by kernel_rfl)
theorem vectorPlanes_inst : Tryz.f5.isInstance Tryz.prog Rows.vectorPlanesRow.origin Rows.vectorPlanesRow.targs := of_decide_eq_true (by kernel_rfl)
theorem vectorPlanes_wrap : Tryz.f5.isWrapper Tryz.prog Rows.vectorPlanesRow.wrapper Rows.vectorPlanesRow.mainSum := by
  unfold Func.isWrapper
  first | (rw [if_pos (by decide +kernel)]; kernel_rfl) | (rw [if_neg (by decide +kernel)]; exact ⟨rfl, rfl⟩)
theorem vectorPlanes_row : Rows.VectorPlanesSaid :=
  OpenClaim.holds_of_wide 5 Tryz.f5 rfl rfl rfl rfl rfl rfl rfl ⟨rfl, rfl, rfl, rfl, rfl⟩ rfl rfl rfl rfl rfl vectorPlanes_named Tryz.func5 vectorPlanes_joined vectorPlanes_inst vectorPlanes_wrap
    (fun os started H enc _ => vectorPlanes_lifted os started H enc)

theorem vectorPlanes_wf : Rows.vectorPlanesRow.wfByText (OpenSpec.ofChange Rows.vectorPlanesSpec) = true := by kernel_rfl
theorem vectorPlanes_main : Tryz.prog.mainIs = some (true, "f6834b59d3a32dc1caebcdd56e5cc166c0610937adb86b9103e646233883aa4a".toList) := by kernel_rfl
theorem vectorPlanes_goes : false = Rows.vectorPlanesRow.goesBy Tryz.prog := by kernel_rfl
theorem vectorPlanes_looks : true = Tryz.prog.looks [] := by kernel_rfl
theorem vectorPlanes_wants : ([48, 28].all fun u => !Tryz.prog.wantsStandIn u) = true := by kernel_rfl
theorem vectorPlanes_holds : Rows.VectorPlanesCardSaid :=
  Claim7.holds_tied_plain_at .later [] [.data, .data, .data, .sentinel, .sentinel] true (true, "f6834b59d3a32dc1caebcdd56e5cc166c0610937adb86b9103e646233883aa4a") true
    vectorPlanes_row (fun _ h => by cases h) vectorPlanes_wf (fun _ h => by cases h) vectorPlanes_row_tie rfl ⟨rfl, rfl⟩ vectorPlanes_main rfl
    (fun f fn hf hfn => by
      obtain rfl : f = 5 := Option.some.inj (Eq.trans (Eq.symm vectorPlanes_named) hf) |>.symm
      obtain rfl : fn = Tryz.f5 := (Option.some.inj (Tryz.func5.symm.trans hfn)).symm
      exact ⟨vectorPlanes_looks, fun j t ht => by
        rw [Tryz.params5] at ht
        have hm : t ∈ [48, 28] := by simpa using Array.mem_of_getElem? ht
        exact (show Tryz.prog.wantsStandIn t = false by simpa using List.all_eq_true.1 vectorPlanes_wants t hm)⟩)
    vectorPlanes_goes
#print axioms vectorPlanes_holds
end Go.Proofs.YtgbabmkclojgeaaGreatDoor
