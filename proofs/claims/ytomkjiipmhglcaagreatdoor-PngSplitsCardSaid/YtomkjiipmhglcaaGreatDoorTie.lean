/-
  DERIVED. GIVEN WITH THE SEED: THE PROGRAM's TIES (one call each: nine closed facts by the kernel) AND EACH ROW's TIE, after the 31st guide's Derived/Test/Toyas{Tie, Card}.lean. No idea stands in it: it is a product of the set-up. Laid BY PROGRAM, IN A SANDBOX (cutbox-door.mjs). By AI agents, Wed Nov 11 2026. No macro, syntax, notation, axiom, sorry.
-/
import Derived.Test.YtomkjiipmhglcaaGreatDoorRows
import Derived.LaidByTextLater
import Derived.SevenTiedAt
import Derived.LaidSub
import Derived.LaidOnce
namespace Go.Proofs.YtomkjiipmhglcaaGreatDoor
open Go
set_option maxRecDepth 100000
theorem seatTie1 : Tryz.prog.laidByTextLater [("mortise/sums.half", Rows.laid_mortise_sums_half), ("mortise/deflate.order", Rows.laid_mortise_deflate_order), ("mortise/inflate.lengths", Rows.laid_mortise_inflate_lengths), ("mortise/inflate.distances", Rows.laid_mortise_inflate_distances), ("mortise/inflate.order", Rows.laid_mortise_inflate_order), ("mortise/png.colors", Rows.laid_mortise_png_colors)] [.data, .data, .data, .data, .data, .data] true :=
  Program.laidByTextLater_by_one 101 8 61 (by kernel_rfl) (by kernel_rfl) (by kernel_rfl) (by kernel_rfl) (by kernel_rfl) (by kernel_rfl) (fun _ _ => by kernel_rfl)
theorem noOwnUnsafe : Tryz.pinned.checked.prog.headLifts.contains "ownunsafe" = false := by kernel_rfl
theorem tie : Tryz.prog.laidByTextLater [("mortise/sums.half", Rows.laid_mortise_sums_half), ("mortise/deflate.order", Rows.laid_mortise_deflate_order), ("mortise/inflate.lengths", Rows.laid_mortise_inflate_lengths), ("mortise/inflate.distances", Rows.laid_mortise_inflate_distances), ("mortise/inflate.order", Rows.laid_mortise_inflate_order), ("mortise/png.colors", Rows.laid_mortise_png_colors)] [.data, .data, .data, .data, .data, .data] true :=
  Program.laidByTextLater.sub seatTie1 ["mortise/sums.half", "mortise/deflate.order", "mortise/inflate.lengths", "mortise/inflate.distances", "mortise/inflate.order", "mortise/png.colors"] (by kernel_rfl) (by kernel_rfl)
theorem pngSplits_row_tie : Rows.pngSplitsRow.laidByTextAt .later Tryz.pinned [.data, .data, .data, .data, .data, .data] true :=
  OpenClaim.laidByTextAt_later rfl rfl tie noOwnUnsafe
theorem pngJoins_row_tie : Rows.pngJoinsRow.laidByTextAt .later Tryz.pinned [.data, .data, .data, .data, .data, .data] true :=
  OpenClaim.laidByTextAt_later rfl rfl tie noOwnUnsafe
theorem pngDecodes_row_tie : Rows.pngDecodesRow.laidByTextAt .later Tryz.pinned [.data, .data, .data, .data, .data, .data] true :=
  OpenClaim.laidByTextAt_later rfl rfl tie noOwnUnsafe
theorem pngEncodes_row_tie : Rows.pngEncodesRow.laidByTextAt .later Tryz.pinned [.data, .data, .data, .data, .data, .data] true :=
  OpenClaim.laidByTextAt_later rfl rfl tie noOwnUnsafe
theorem pngBack_row_tie : Rows.pngBackRow.laidByTextAt .later Tryz.pinned [.data, .data, .data, .data, .data, .data] true :=
  OpenClaim.laidByTextAt_later rfl rfl tie noOwnUnsafe
theorem pngTurned_row_tie : Rows.pngTurnedRow.laidByTextAt .later Tryz.pinned [.data, .data, .data, .data, .data, .data] true :=
  OpenClaim.laidByTextAt_later rfl rfl tie noOwnUnsafe
theorem pngSplitsUpto_row_tie : Rows.pngSplitsUptoRow.laidByTextAt .later Tryz.pinned [.data, .data, .data, .data, .data, .data] true :=
  OpenClaim.laidByTextAt_later rfl rfl tie noOwnUnsafe
theorem pngJoinsUpto_row_tie : Rows.pngJoinsUptoRow.laidByTextAt .later Tryz.pinned [.data, .data, .data, .data, .data, .data] true :=
  OpenClaim.laidByTextAt_later rfl rfl tie noOwnUnsafe
theorem pngDecodesUpto_row_tie : Rows.pngDecodesUptoRow.laidByTextAt .later Tryz.pinned [.data, .data, .data, .data, .data, .data] true :=
  OpenClaim.laidByTextAt_later rfl rfl tie noOwnUnsafe
theorem pngEncodesUpto_row_tie : Rows.pngEncodesUptoRow.laidByTextAt .later Tryz.pinned [.data, .data, .data, .data, .data, .data] true :=
  OpenClaim.laidByTextAt_later rfl rfl tie noOwnUnsafe
theorem pngBackUpto_row_tie : Rows.pngBackUptoRow.laidByTextAt .later Tryz.pinned [.data, .data, .data, .data, .data, .data] true :=
  OpenClaim.laidByTextAt_later rfl rfl tie noOwnUnsafe
theorem pngTurnedUpto_row_tie : Rows.pngTurnedUptoRow.laidByTextAt .later Tryz.pinned [.data, .data, .data, .data, .data, .data] true :=
  OpenClaim.laidByTextAt_later rfl rfl tie noOwnUnsafe
end Go.Proofs.YtomkjiipmhglcaaGreatDoor
