/- The longer list of laid variables: the world that meets it, and what a walk wants of it. -/
import Derived.Test.YthkkdepppjiaeaaGreatDoorPoLaw
import Derived.Test.YthkkdepppjiaeaaGreatDoorSjBack
import Derived.Stop.LaidErr
namespace Go.Proofs.YthkkdepppjiaeaaGreatDoor
open Go.ChangeShapes Go.WideShapes Go.ChangeAt Go.ChangeMaps Go.RowKit Go.Deep

abbrev laidL2 : List (String × DataW Unit) := [("math/bits.deBruijn32tab", Rows.laid_math_bits_deBruijn32tab), ("math/bits.deBruijn64tab", Rows.laid_math_bits_deBruijn64tab), ("internal/strconv.uint64pow10", Rows.laid_internal_strconv_uint64pow10), ("unicode/utf8.acceptRanges", Rows.laid_unicode_utf8_acceptRanges), ("strconv.ErrRange", Rows.laid_strconv_ErrRange), ("strconv.ErrSyntax", Rows.laid_strconv_ErrSyntax), ("unicode/utf8.first", Rows.laid_unicode_utf8_first)]
theorem laid_met2 {os : Os} {args : Array Value} : laidMetH Tryz.prog laidL2 ((World.laidAll Tryz.prog os laidL2).forCall (fun _ _ => 0) ⟨#[], args, []⟩).memory := by
  rw [MakeChecks.laidMetH_plain _ _ _ (by kernel_rfl)]; exact laidMet_laidAll _ (by kernel_rfl) (by kernel_rfl)
theorem laid_shaped2 {os : Os} {args : Array Value} : ((World.laidAll Tryz.prog os laidL2).forCall (fun _ _ => 0) ⟨#[], args, []⟩).Shaped Tryz.prog :=
  World.shaped_of_ZipB (by kernel_rfl) (by kernel_rfl)
theorem err_star : "*" ++ "errors.errorString" = "*errors.errorString" := by decide
theorem err_row (u : TypeId) (h : Tryz.prog.typeName? 3 u = some "*errors.errorString") : u = 304 :=
  typeName_ptr_named (nm := "errors.errorString") (by rw [err_star]; kernel_rfl) (by kernel_rfl) (by decide) u (by rw [err_star]; exact h)
theorem envB_of_laid {W : World} (h : laidMetH Tryz.prog laidL2 W) (hs : W.ShapedOpen Tryz.prog) : EnvB W := by
  rw [MakeChecks.laidMetH_plain _ _ _ (by kernel_rfl)] at h
  have h3 := h.tail.tail
  have h5 := h.tail.tail.tail.tail
  have h6 := h.tail.tail.tail.tail.tail
  rw [laid_pow10] at h3
  obtain ⟨a1, _, v1, _⟩ := laid_sentinel (g := 3) (ti := 150) h5 (by kernel_rfl) (by kernel_rfl) Tryz.underlying150 err_row Tryz.underlying304 Tryz.underlying306 rfl rfl Tryz.underlying9 (by kernel_rfl) (by kernel_rfl)
  obtain ⟨a2, _, v2, _⟩ := laid_sentinel (g := 2) (ti := 150) h6 (by kernel_rfl) (by kernel_rfl) Tryz.underlying150 err_row Tryz.underlying304 Tryz.underlying306 rfl rfl Tryz.underlying9 (by kernel_rfl) (by kernel_rfl)
  exact ⟨⟨Lib.tabIs_of_head (g := 0) (t := 257) (e := 165) (n := 20) (by kernel_rfl) (by kernel_rfl) (by kernel_rfl) (by kernel_rfl) (by kernel_rfl) (by kernel_rfl) h3, hs⟩, ⟨_, _, v2⟩, ⟨_, _, v1⟩⟩
end Go.Proofs.YthkkdepppjiaeaaGreatDoor
