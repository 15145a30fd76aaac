/-
  DERIVED. GIVEN WITH THE SEED: THE PROGRAM's TIES (one call each: nine closed facts by the kernel) AND EACH ROW's TIE, after the 31st guide's Derived/Test/Toyas{Tie, Card}.lean. No idea stands in it: it is a product of the set-up. Laid BY PROGRAM, IN A SANDBOX (cutbox-door.mjs). By AI agents, Wed Nov 11 2026. No macro, syntax, notation, axiom, sorry.
-/
import Derived.Test.YtghnolfalfbndaaDoorRows
import Derived.LaidByTextLater
import Derived.SevenTiedAt
import Derived.LaidSub
import Derived.LaidOnce
namespace Go.Proofs.YtghnolfalfbndaaDoor
open Go
set_option maxRecDepth 100000
theorem seatTie1 : Tryd.prog.laidByTextLater [("mortise/inflate.lengths", Rows.laid_mortise_inflate_lengths), ("mortise/inflate.distances", Rows.laid_mortise_inflate_distances), ("mortise/inflate.order", Rows.laid_mortise_inflate_order)] [.data, .data, .data] true :=
  Program.laidByTextLater_by_one 83 8 61 (by kernel_rfl) (by kernel_rfl) (by kernel_rfl) (by kernel_rfl) (by kernel_rfl) (by kernel_rfl) (fun _ _ => by kernel_rfl)
theorem noOwnUnsafe : Tryd.pinned.checked.prog.headLifts.contains "ownunsafe" = false := by kernel_rfl
theorem tie : Tryd.prog.laidByTextLater [("mortise/inflate.lengths", Rows.laid_mortise_inflate_lengths), ("mortise/inflate.distances", Rows.laid_mortise_inflate_distances), ("mortise/inflate.order", Rows.laid_mortise_inflate_order)] [.data, .data, .data] true :=
  Program.laidByTextLater.sub seatTie1 ["mortise/inflate.lengths", "mortise/inflate.distances", "mortise/inflate.order"] (by kernel_rfl) (by kernel_rfl)
theorem zlibReads_row_tie : Rows.zlibReadsRow.laidByTextAt .later Tryd.pinned [.data, .data, .data] true :=
  OpenClaim.laidByTextAt_later rfl rfl tie noOwnUnsafe
theorem zlibHeads_row_tie : Rows.zlibHeadsRow.laidByTextAt .later Tryd.pinned [.data, .data, .data] true :=
  OpenClaim.laidByTextAt_later rfl rfl tie noOwnUnsafe
theorem zlibReadsUpto_row_tie : Rows.zlibReadsUptoRow.laidByTextAt .later Tryd.pinned [.data, .data, .data] true :=
  OpenClaim.laidByTextAt_later rfl rfl tie noOwnUnsafe
theorem zlibHeadsUpto_row_tie : Rows.zlibHeadsUptoRow.laidByTextAt .later Tryd.pinned [.data, .data, .data] true :=
  OpenClaim.laidByTextAt_later rfl rfl tie noOwnUnsafe
end Go.Proofs.YtghnolfalfbndaaDoor
