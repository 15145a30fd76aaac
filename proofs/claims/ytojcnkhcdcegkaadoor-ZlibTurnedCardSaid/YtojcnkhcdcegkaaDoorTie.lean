/-
  DERIVED. GIVEN WITH THE SEED: THE PROGRAM's TIES (one call each: nine closed facts by the kernel) AND EACH ROW's TIE, after the 31st guide's Derived/Test/Toyas{Tie, Card}.lean. No idea stands in it: it is a product of the set-up. Laid BY PROGRAM, IN A SANDBOX (cutbox-door.mjs). By AI agents, Wed Nov 11 2026. No macro, syntax, notation, axiom, sorry.
-/
import Derived.Test.YtojcnkhcdcegkaaDoorRows
import Derived.LaidByTextLater
import Derived.SevenTiedAt
import Derived.LaidSub
import Derived.LaidOnce
namespace Go.Proofs.YtojcnkhcdcegkaaDoor
open Go
set_option maxRecDepth 100000
theorem seatTie1 : Tryd.prog.laidByTextLater [("mortise/deflate.order", Rows.laid_mortise_deflate_order), ("mortise/inflate.lengths", Rows.laid_mortise_inflate_lengths), ("mortise/inflate.distances", Rows.laid_mortise_inflate_distances), ("mortise/inflate.order", Rows.laid_mortise_inflate_order)] [.data, .data, .data, .data] true :=
  Program.laidByTextLater_by_one 88 8 61 (by kernel_rfl) (by kernel_rfl) (by kernel_rfl) (by kernel_rfl) (by kernel_rfl) (by kernel_rfl) (fun _ _ => by kernel_rfl)
theorem noOwnUnsafe : Tryd.pinned.checked.prog.headLifts.contains "ownunsafe" = false := by kernel_rfl
theorem tie : Tryd.prog.laidByTextLater [("mortise/deflate.order", Rows.laid_mortise_deflate_order), ("mortise/inflate.lengths", Rows.laid_mortise_inflate_lengths), ("mortise/inflate.distances", Rows.laid_mortise_inflate_distances), ("mortise/inflate.order", Rows.laid_mortise_inflate_order)] [.data, .data, .data, .data] true :=
  Program.laidByTextLater.sub seatTie1 ["mortise/deflate.order", "mortise/inflate.lengths", "mortise/inflate.distances", "mortise/inflate.order"] (by kernel_rfl) (by kernel_rfl)
theorem zlibZips_row_tie : Rows.zlibZipsRow.laidByTextAt .later Tryd.pinned [.data, .data, .data, .data] true :=
  OpenClaim.laidByTextAt_later rfl rfl tie noOwnUnsafe
theorem zlibBack_row_tie : Rows.zlibBackRow.laidByTextAt .later Tryd.pinned [.data, .data, .data, .data] true :=
  OpenClaim.laidByTextAt_later rfl rfl tie noOwnUnsafe
theorem zlibTurned_row_tie : Rows.zlibTurnedRow.laidByTextAt .later Tryd.pinned [.data, .data, .data, .data] true :=
  OpenClaim.laidByTextAt_later rfl rfl tie noOwnUnsafe
theorem zlibZipsUpto_row_tie : Rows.zlibZipsUptoRow.laidByTextAt .later Tryd.pinned [.data, .data, .data, .data] true :=
  OpenClaim.laidByTextAt_later rfl rfl tie noOwnUnsafe
theorem zlibBackUpto_row_tie : Rows.zlibBackUptoRow.laidByTextAt .later Tryd.pinned [.data, .data, .data, .data] true :=
  OpenClaim.laidByTextAt_later rfl rfl tie noOwnUnsafe
theorem zlibTurnedUpto_row_tie : Rows.zlibTurnedUptoRow.laidByTextAt .later Tryd.pinned [.data, .data, .data, .data] true :=
  OpenClaim.laidByTextAt_later rfl rfl tie noOwnUnsafe
end Go.Proofs.YtojcnkhcdcegkaaDoor
