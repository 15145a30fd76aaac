/-
  DERIVED. GIVEN WITH THE SEED: THE CARDS: each row of YtfjejpdilghhpaaDoorRows.lean that lists a variable, with what it lists TIED to the program's text (the seventh form; the later family's looks); each row that meets fmt, with fmt's text TOLD by the authors' own Lean function (tested against real Go, not proved from fmt's source: count such statements apart). THE CARD IS WHAT COUNTS. Prove the row's statement (the work); the ties are given (YtfjejpdilghhpaaDoorTie.lean); close each card by the builder's one call (the guide's Derived/Test/ToyasCard.lean, 'card_holds'). Laid BY PROGRAM, IN A SANDBOX (cutbox-door.mjs). By AI agents, Wed Nov 11 2026. No macro, syntax, notation, axiom, sorry.
-/
import Derived.Test.YtfjejpdilghhpaaDoorRows
import GoSem.ClaimSeven
namespace Go.Proofs.YtfjejpdilghhpaaDoor
namespace Rows

/-- THE TIED CARD OF 'mortiselaw07.InflateReads'. -/
def inflateReadsCard : Claim7 := { stood := { row := inflateReadsRow, standIns := [], harness := (true, "80b56152b80d33f33a91510e183caf659e60d488ffc432a7271082f612a7bc5d"), looks := true }, kinds := [], alts := [], laidByText := true, laidKinds := [.data, .data, .data], laidTests := true, laidLooks := .later }
def InflateReadsCardSaid : Prop := Claim7.holds Tryd.pinned (.plain (OpenSpec.ofChange inflateReadsSpec)) inflateReadsCard

/-- THE TIED CARD OF 'mortiselaw07.InflateBehind'. -/
def inflateBehindCard : Claim7 := { stood := { row := inflateBehindRow, standIns := [], harness := (true, "80b56152b80d33f33a91510e183caf659e60d488ffc432a7271082f612a7bc5d"), looks := true }, kinds := [], alts := [], laidByText := true, laidKinds := [.data, .data, .data], laidTests := true, laidLooks := .later }
def InflateBehindCardSaid : Prop := Claim7.holds Tryd.pinned (.plain (OpenSpec.ofChange inflateBehindSpec)) inflateBehindCard

/-- THE TIED CARD OF 'mortiselaw07.InflateCut'. -/
def inflateCutCard : Claim7 := { stood := { row := inflateCutRow, standIns := [], harness := (true, "80b56152b80d33f33a91510e183caf659e60d488ffc432a7271082f612a7bc5d"), looks := true }, kinds := [], alts := [], laidByText := true, laidKinds := [.data, .data, .data], laidTests := true, laidLooks := .later }
def InflateCutCardSaid : Prop := Claim7.holds Tryd.pinned (.plain (OpenSpec.ofChange inflateCutSpec)) inflateCutCard

/-- THE TIED CARD OF 'mortiselaw07.InflateLimits'. -/
def inflateLimitsCard : Claim7 := { stood := { row := inflateLimitsRow, standIns := [], harness := (true, "80b56152b80d33f33a91510e183caf659e60d488ffc432a7271082f612a7bc5d"), looks := true }, kinds := [], alts := [], laidByText := true, laidKinds := [.data, .data, .data], laidTests := true, laidLooks := .later }
def InflateLimitsCardSaid : Prop := Claim7.holds Tryd.pinned (.plain (OpenSpec.ofChange inflateLimitsSpec)) inflateLimitsCard

/-- THE TIED CARD OF 'mortiselaw07.InflateStored'. -/
def inflateStoredCard : Claim7 := { stood := { row := inflateStoredRow, standIns := [], harness := (true, "80b56152b80d33f33a91510e183caf659e60d488ffc432a7271082f612a7bc5d"), looks := true }, kinds := [], alts := [], laidByText := true, laidKinds := [.data, .data, .data], laidTests := true, laidLooks := .later }
def InflateStoredCardSaid : Prop := Claim7.holds Tryd.pinned (.plain (OpenSpec.ofChange inflateStoredSpec)) inflateStoredCard

/-- THE TIED CARD OF 'mortiselaw07.InflateAhead'. -/
def inflateAheadCard : Claim7 := { stood := { row := inflateAheadRow, standIns := [], harness := (true, "80b56152b80d33f33a91510e183caf659e60d488ffc432a7271082f612a7bc5d"), looks := true }, kinds := [], alts := [], laidByText := true, laidKinds := [.data, .data, .data], laidTests := true, laidLooks := .later }
def InflateAheadCardSaid : Prop := Claim7.holds Tryd.pinned (.plain (OpenSpec.ofChange inflateAheadSpec)) inflateAheadCard

/-- THE SECOND FORM's CARD OF 'mortiselaw07.InflateReads'. -/
def inflateReadsUptoCard : Claim7 := { stood := { row := inflateReadsUptoRow, standIns := [], harness := (true, "80b56152b80d33f33a91510e183caf659e60d488ffc432a7271082f612a7bc5d"), looks := true }, kinds := [], alts := [], laidByText := true, laidKinds := [.data, .data, .data], laidTests := true, laidLooks := .later }
def InflateReadsUptoCardSaid : Prop := Claim7.holds Tryd.pinned (.plain (OpenSpec.upto inflateReadsSpec)) inflateReadsUptoCard

/-- THE SECOND FORM's CARD OF 'mortiselaw07.InflateBehind'. -/
def inflateBehindUptoCard : Claim7 := { stood := { row := inflateBehindUptoRow, standIns := [], harness := (true, "80b56152b80d33f33a91510e183caf659e60d488ffc432a7271082f612a7bc5d"), looks := true }, kinds := [], alts := [], laidByText := true, laidKinds := [.data, .data, .data], laidTests := true, laidLooks := .later }
def InflateBehindUptoCardSaid : Prop := Claim7.holds Tryd.pinned (.plain (OpenSpec.upto inflateBehindSpec)) inflateBehindUptoCard

/-- THE SECOND FORM's CARD OF 'mortiselaw07.InflateCut'. -/
def inflateCutUptoCard : Claim7 := { stood := { row := inflateCutUptoRow, standIns := [], harness := (true, "80b56152b80d33f33a91510e183caf659e60d488ffc432a7271082f612a7bc5d"), looks := true }, kinds := [], alts := [], laidByText := true, laidKinds := [.data, .data, .data], laidTests := true, laidLooks := .later }
def InflateCutUptoCardSaid : Prop := Claim7.holds Tryd.pinned (.plain (OpenSpec.upto inflateCutSpec)) inflateCutUptoCard

/-- THE SECOND FORM's CARD OF 'mortiselaw07.InflateLimits'. -/
def inflateLimitsUptoCard : Claim7 := { stood := { row := inflateLimitsUptoRow, standIns := [], harness := (true, "80b56152b80d33f33a91510e183caf659e60d488ffc432a7271082f612a7bc5d"), looks := true }, kinds := [], alts := [], laidByText := true, laidKinds := [.data, .data, .data], laidTests := true, laidLooks := .later }
def InflateLimitsUptoCardSaid : Prop := Claim7.holds Tryd.pinned (.plain (OpenSpec.upto inflateLimitsSpec)) inflateLimitsUptoCard

/-- THE SECOND FORM's CARD OF 'mortiselaw07.InflateStored'. -/
def inflateStoredUptoCard : Claim7 := { stood := { row := inflateStoredUptoRow, standIns := [], harness := (true, "80b56152b80d33f33a91510e183caf659e60d488ffc432a7271082f612a7bc5d"), looks := true }, kinds := [], alts := [], laidByText := true, laidKinds := [.data, .data, .data], laidTests := true, laidLooks := .later }
def InflateStoredUptoCardSaid : Prop := Claim7.holds Tryd.pinned (.plain (OpenSpec.upto inflateStoredSpec)) inflateStoredUptoCard

/-- THE SECOND FORM's CARD OF 'mortiselaw07.InflateAhead'. -/
def inflateAheadUptoCard : Claim7 := { stood := { row := inflateAheadUptoRow, standIns := [], harness := (true, "80b56152b80d33f33a91510e183caf659e60d488ffc432a7271082f612a7bc5d"), looks := true }, kinds := [], alts := [], laidByText := true, laidKinds := [.data, .data, .data], laidTests := true, laidLooks := .later }
def InflateAheadUptoCardSaid : Prop := Claim7.holds Tryd.pinned (.plain (OpenSpec.upto inflateAheadSpec)) inflateAheadUptoCard
end Rows
end Go.Proofs.YtfjejpdilghhpaaDoor
