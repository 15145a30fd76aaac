/-
  DERIVED. GIVEN WITH THE SEED: THE CARDS: each row of YtghnolfalfbndaaDoorRows.lean that lists a variable, with what it lists TIED to the program's text (the seventh form; the later family's looks); each row that meets fmt, with fmt's text TOLD by the authors' own Lean function (tested against real Go, not proved from fmt's source: count such statements apart). THE CARD IS WHAT COUNTS. Prove the row's statement (the work); the ties are given (YtghnolfalfbndaaDoorTie.lean); close each card by the builder's one call (the guide's Derived/Test/ToyasCard.lean, 'card_holds'). Laid BY PROGRAM, IN A SANDBOX (cutbox-door.mjs). By AI agents, Wed Nov 11 2026. No macro, syntax, notation, axiom, sorry.
-/
import Derived.Test.YtghnolfalfbndaaDoorRows
import GoSem.ClaimSeven
namespace Go.Proofs.YtghnolfalfbndaaDoor
namespace Rows

/-- THE TIED CARD OF 'mortiselaw10.ZlibReads'. -/
def zlibReadsCard : Claim7 := { stood := { row := zlibReadsRow, standIns := [], harness := (true, "85337bd19461ec0dbefd4310eb3443abda37676bac46cbf43cfa266ed70d76fd"), looks := true }, kinds := [], alts := [], laidByText := true, laidKinds := [.data, .data, .data], laidTests := true, laidLooks := .later }
def ZlibReadsCardSaid : Prop := Claim7.holds Tryd.pinned (.plain (OpenSpec.ofChange zlibReadsSpec)) zlibReadsCard

/-- THE TIED CARD OF 'mortiselaw10.ZlibHeads'. -/
def zlibHeadsCard : Claim7 := { stood := { row := zlibHeadsRow, standIns := [], harness := (true, "85337bd19461ec0dbefd4310eb3443abda37676bac46cbf43cfa266ed70d76fd"), looks := true }, kinds := [], alts := [], laidByText := true, laidKinds := [.data, .data, .data], laidTests := true, laidLooks := .later }
def ZlibHeadsCardSaid : Prop := Claim7.holds Tryd.pinned (.plain (OpenSpec.ofChange zlibHeadsSpec)) zlibHeadsCard

/-- THE SECOND FORM's CARD OF 'mortiselaw10.ZlibReads'. -/
def zlibReadsUptoCard : Claim7 := { stood := { row := zlibReadsUptoRow, standIns := [], harness := (true, "85337bd19461ec0dbefd4310eb3443abda37676bac46cbf43cfa266ed70d76fd"), looks := true }, kinds := [], alts := [], laidByText := true, laidKinds := [.data, .data, .data], laidTests := true, laidLooks := .later }
def ZlibReadsUptoCardSaid : Prop := Claim7.holds Tryd.pinned (.plain (OpenSpec.upto zlibReadsSpec)) zlibReadsUptoCard

/-- THE SECOND FORM's CARD OF 'mortiselaw10.ZlibHeads'. -/
def zlibHeadsUptoCard : Claim7 := { stood := { row := zlibHeadsUptoRow, standIns := [], harness := (true, "85337bd19461ec0dbefd4310eb3443abda37676bac46cbf43cfa266ed70d76fd"), looks := true }, kinds := [], alts := [], laidByText := true, laidKinds := [.data, .data, .data], laidTests := true, laidLooks := .later }
def ZlibHeadsUptoCardSaid : Prop := Claim7.holds Tryd.pinned (.plain (OpenSpec.upto zlibHeadsSpec)) zlibHeadsUptoCard
end Rows
end Go.Proofs.YtghnolfalfbndaaDoor
