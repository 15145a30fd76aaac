/-
  DERIVED. GIVEN WITH THE SEED: THE CARDS: each row of YtomkjiipmhglcaaGreatDoorRows.lean that lists a variable, with what it lists TIED to the program's text (the seventh form; the later family's looks); each row that meets fmt, with fmt's text TOLD by the authors' own Lean function (tested against real Go, not proved from fmt's source: count such statements apart). THE CARD IS WHAT COUNTS. Prove the row's statement (the work); the ties are given (YtomkjiipmhglcaaGreatDoorTie.lean); close each card by the builder's one call (the guide's Derived/Test/ToyasCard.lean, 'card_holds'). Laid BY PROGRAM, IN A SANDBOX (cutbox-door.mjs). By AI agents, Wed Nov 11 2026. No macro, syntax, notation, axiom, sorry.
-/
import Derived.Test.YtomkjiipmhglcaaGreatDoorRows
import GoSem.ClaimSeven
namespace Go.Proofs.YtomkjiipmhglcaaGreatDoor
namespace Rows

/-- THE TIED CARD OF 'mortiselaw17.PngSplits'. -/
def pngSplitsCard : Claim7 := { stood := { row := pngSplitsRow, standIns := [], harness := (true, "830a8fe6bb93cd9784e24f046baa4c063c89529b219a7ccfb9801d8f2c77bc39"), looks := true }, kinds := [], alts := [], laidByText := true, laidKinds := [.data, .data, .data, .data, .data, .data], laidTests := true, laidLooks := .later }
def PngSplitsCardSaid : Prop := Claim7.holds Tryz.pinned (.plain (OpenSpec.ofChange pngSplitsSpec)) pngSplitsCard

/-- THE TIED CARD OF 'mortiselaw17.PngJoins'. -/
def pngJoinsCard : Claim7 := { stood := { row := pngJoinsRow, standIns := [], harness := (true, "830a8fe6bb93cd9784e24f046baa4c063c89529b219a7ccfb9801d8f2c77bc39"), looks := true }, kinds := [], alts := [], laidByText := true, laidKinds := [.data, .data, .data, .data, .data, .data], laidTests := true, laidLooks := .later }
def PngJoinsCardSaid : Prop := Claim7.holds Tryz.pinned (.plain (OpenSpec.ofChange pngJoinsSpec)) pngJoinsCard

/-- THE TIED CARD OF 'mortiselaw17.PngDecodes'. -/
def pngDecodesCard : Claim7 := { stood := { row := pngDecodesRow, standIns := [], harness := (true, "830a8fe6bb93cd9784e24f046baa4c063c89529b219a7ccfb9801d8f2c77bc39"), looks := true }, kinds := [], alts := [], laidByText := true, laidKinds := [.data, .data, .data, .data, .data, .data], laidTests := true, laidLooks := .later }
def PngDecodesCardSaid : Prop := Claim7.holds Tryz.pinned (.plain (OpenSpec.ofChange pngDecodesSpec)) pngDecodesCard

/-- THE TIED CARD OF 'mortiselaw17.PngEncodes'. -/
def pngEncodesCard : Claim7 := { stood := { row := pngEncodesRow, standIns := [], harness := (true, "830a8fe6bb93cd9784e24f046baa4c063c89529b219a7ccfb9801d8f2c77bc39"), looks := true }, kinds := [], alts := [], laidByText := true, laidKinds := [.data, .data, .data, .data, .data, .data], laidTests := true, laidLooks := .later }
def PngEncodesCardSaid : Prop := Claim7.holds Tryz.pinned (.plain (OpenSpec.ofChange pngEncodesSpec)) pngEncodesCard

/-- THE TIED CARD OF 'mortiselaw17.PngBack'. -/
def pngBackCard : Claim7 := { stood := { row := pngBackRow, standIns := [], harness := (true, "830a8fe6bb93cd9784e24f046baa4c063c89529b219a7ccfb9801d8f2c77bc39"), looks := true }, kinds := [], alts := [], laidByText := true, laidKinds := [.data, .data, .data, .data, .data, .data], laidTests := true, laidLooks := .later }
def PngBackCardSaid : Prop := Claim7.holds Tryz.pinned (.plain (OpenSpec.ofChange pngBackSpec)) pngBackCard

/-- THE TIED CARD OF 'mortiselaw17.PngTurned'. -/
def pngTurnedCard : Claim7 := { stood := { row := pngTurnedRow, standIns := [], harness := (true, "830a8fe6bb93cd9784e24f046baa4c063c89529b219a7ccfb9801d8f2c77bc39"), looks := true }, kinds := [], alts := [], laidByText := true, laidKinds := [.data, .data, .data, .data, .data, .data], laidTests := true, laidLooks := .later }
def PngTurnedCardSaid : Prop := Claim7.holds Tryz.pinned (.plain (OpenSpec.ofChange pngTurnedSpec)) pngTurnedCard

/-- THE SECOND FORM's CARD OF 'mortiselaw17.PngSplits'. -/
def pngSplitsUptoCard : Claim7 := { stood := { row := pngSplitsUptoRow, standIns := [], harness := (true, "830a8fe6bb93cd9784e24f046baa4c063c89529b219a7ccfb9801d8f2c77bc39"), looks := true }, kinds := [], alts := [], laidByText := true, laidKinds := [.data, .data, .data, .data, .data, .data], laidTests := true, laidLooks := .later }
def PngSplitsUptoCardSaid : Prop := Claim7.holds Tryz.pinned (.plain (OpenSpec.upto pngSplitsSpec)) pngSplitsUptoCard

/-- THE SECOND FORM's CARD OF 'mortiselaw17.PngJoins'. -/
def pngJoinsUptoCard : Claim7 := { stood := { row := pngJoinsUptoRow, standIns := [], harness := (true, "830a8fe6bb93cd9784e24f046baa4c063c89529b219a7ccfb9801d8f2c77bc39"), looks := true }, kinds := [], alts := [], laidByText := true, laidKinds := [.data, .data, .data, .data, .data, .data], laidTests := true, laidLooks := .later }
def PngJoinsUptoCardSaid : Prop := Claim7.holds Tryz.pinned (.plain (OpenSpec.upto pngJoinsSpec)) pngJoinsUptoCard

/-- THE SECOND FORM's CARD OF 'mortiselaw17.PngDecodes'. -/
def pngDecodesUptoCard : Claim7 := { stood := { row := pngDecodesUptoRow, standIns := [], harness := (true, "830a8fe6bb93cd9784e24f046baa4c063c89529b219a7ccfb9801d8f2c77bc39"), looks := true }, kinds := [], alts := [], laidByText := true, laidKinds := [.data, .data, .data, .data, .data, .data], laidTests := true, laidLooks := .later }
def PngDecodesUptoCardSaid : Prop := Claim7.holds Tryz.pinned (.plain (OpenSpec.upto pngDecodesSpec)) pngDecodesUptoCard

/-- THE SECOND FORM's CARD OF 'mortiselaw17.PngEncodes'. -/
def pngEncodesUptoCard : Claim7 := { stood := { row := pngEncodesUptoRow, standIns := [], harness := (true, "830a8fe6bb93cd9784e24f046baa4c063c89529b219a7ccfb9801d8f2c77bc39"), looks := true }, kinds := [], alts := [], laidByText := true, laidKinds := [.data, .data, .data, .data, .data, .data], laidTests := true, laidLooks := .later }
def PngEncodesUptoCardSaid : Prop := Claim7.holds Tryz.pinned (.plain (OpenSpec.upto pngEncodesSpec)) pngEncodesUptoCard

/-- THE SECOND FORM's CARD OF 'mortiselaw17.PngBack'. -/
def pngBackUptoCard : Claim7 := { stood := { row := pngBackUptoRow, standIns := [], harness := (true, "830a8fe6bb93cd9784e24f046baa4c063c89529b219a7ccfb9801d8f2c77bc39"), looks := true }, kinds := [], alts := [], laidByText := true, laidKinds := [.data, .data, .data, .data, .data, .data], laidTests := true, laidLooks := .later }
def PngBackUptoCardSaid : Prop := Claim7.holds Tryz.pinned (.plain (OpenSpec.upto pngBackSpec)) pngBackUptoCard

/-- THE SECOND FORM's CARD OF 'mortiselaw17.PngTurned'. -/
def pngTurnedUptoCard : Claim7 := { stood := { row := pngTurnedUptoRow, standIns := [], harness := (true, "830a8fe6bb93cd9784e24f046baa4c063c89529b219a7ccfb9801d8f2c77bc39"), looks := true }, kinds := [], alts := [], laidByText := true, laidKinds := [.data, .data, .data, .data, .data, .data], laidTests := true, laidLooks := .later }
def PngTurnedUptoCardSaid : Prop := Claim7.holds Tryz.pinned (.plain (OpenSpec.upto pngTurnedSpec)) pngTurnedUptoCard
end Rows
end Go.Proofs.YtomkjiipmhglcaaGreatDoor
