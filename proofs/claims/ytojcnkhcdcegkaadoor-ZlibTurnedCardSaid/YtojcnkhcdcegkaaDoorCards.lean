/-
  DERIVED. GIVEN WITH THE SEED: THE CARDS: each row of YtojcnkhcdcegkaaDoorRows.lean that lists a variable, with what it lists TIED to the program's text (the seventh form; the later family's looks); each row that meets fmt, with fmt's text TOLD by the authors' own Lean function (tested against real Go, not proved from fmt's source: count such statements apart). THE CARD IS WHAT COUNTS. Prove the row's statement (the work); the ties are given (YtojcnkhcdcegkaaDoorTie.lean); close each card by the builder's one call (the guide's Derived/Test/ToyasCard.lean, 'card_holds'). Laid BY PROGRAM, IN A SANDBOX (cutbox-door.mjs). By AI agents, Wed Nov 11 2026. No macro, syntax, notation, axiom, sorry.
-/
import Derived.Test.YtojcnkhcdcegkaaDoorRows
import GoSem.ClaimSeven
namespace Go.Proofs.YtojcnkhcdcegkaaDoor
namespace Rows

/-- THE TIED CARD OF 'mortiselaw10.ZlibZips'. -/
def zlibZipsCard : Claim7 := { stood := { row := zlibZipsRow, standIns := [], harness := (true, "ce27d399b4d7faf526436aa8d4874a9a822c707fdac7a2dd345b3e068c63c8ff"), looks := true }, kinds := [], alts := [], laidByText := true, laidKinds := [.data, .data, .data, .data], laidTests := true, laidLooks := .later }
def ZlibZipsCardSaid : Prop := Claim7.holds Tryd.pinned (.plain (OpenSpec.ofChange zlibZipsSpec)) zlibZipsCard

/-- THE TIED CARD OF 'mortiselaw10.ZlibBack'. -/
def zlibBackCard : Claim7 := { stood := { row := zlibBackRow, standIns := [], harness := (true, "ce27d399b4d7faf526436aa8d4874a9a822c707fdac7a2dd345b3e068c63c8ff"), looks := true }, kinds := [], alts := [], laidByText := true, laidKinds := [.data, .data, .data, .data], laidTests := true, laidLooks := .later }
def ZlibBackCardSaid : Prop := Claim7.holds Tryd.pinned (.plain (OpenSpec.ofChange zlibBackSpec)) zlibBackCard

/-- THE TIED CARD OF 'mortiselaw10.ZlibTurned'. -/
def zlibTurnedCard : Claim7 := { stood := { row := zlibTurnedRow, standIns := [], harness := (true, "ce27d399b4d7faf526436aa8d4874a9a822c707fdac7a2dd345b3e068c63c8ff"), looks := true }, kinds := [], alts := [], laidByText := true, laidKinds := [.data, .data, .data, .data], laidTests := true, laidLooks := .later }
def ZlibTurnedCardSaid : Prop := Claim7.holds Tryd.pinned (.plain (OpenSpec.ofChange zlibTurnedSpec)) zlibTurnedCard

/-- THE SECOND FORM's CARD OF 'mortiselaw10.ZlibZips'. -/
def zlibZipsUptoCard : Claim7 := { stood := { row := zlibZipsUptoRow, standIns := [], harness := (true, "ce27d399b4d7faf526436aa8d4874a9a822c707fdac7a2dd345b3e068c63c8ff"), looks := true }, kinds := [], alts := [], laidByText := true, laidKinds := [.data, .data, .data, .data], laidTests := true, laidLooks := .later }
def ZlibZipsUptoCardSaid : Prop := Claim7.holds Tryd.pinned (.plain (OpenSpec.upto zlibZipsSpec)) zlibZipsUptoCard

/-- THE SECOND FORM's CARD OF 'mortiselaw10.ZlibBack'. -/
def zlibBackUptoCard : Claim7 := { stood := { row := zlibBackUptoRow, standIns := [], harness := (true, "ce27d399b4d7faf526436aa8d4874a9a822c707fdac7a2dd345b3e068c63c8ff"), looks := true }, kinds := [], alts := [], laidByText := true, laidKinds := [.data, .data, .data, .data], laidTests := true, laidLooks := .later }
def ZlibBackUptoCardSaid : Prop := Claim7.holds Tryd.pinned (.plain (OpenSpec.upto zlibBackSpec)) zlibBackUptoCard

/-- THE SECOND FORM's CARD OF 'mortiselaw10.ZlibTurned'. -/
def zlibTurnedUptoCard : Claim7 := { stood := { row := zlibTurnedUptoRow, standIns := [], harness := (true, "ce27d399b4d7faf526436aa8d4874a9a822c707fdac7a2dd345b3e068c63c8ff"), looks := true }, kinds := [], alts := [], laidByText := true, laidKinds := [.data, .data, .data, .data], laidTests := true, laidLooks := .later }
def ZlibTurnedUptoCardSaid : Prop := Claim7.holds Tryd.pinned (.plain (OpenSpec.upto zlibTurnedSpec)) zlibTurnedUptoCard
end Rows
end Go.Proofs.YtojcnkhcdcegkaaDoor
