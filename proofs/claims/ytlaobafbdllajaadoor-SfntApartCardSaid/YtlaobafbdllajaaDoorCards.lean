/-
  DERIVED. GIVEN WITH THE SEED: THE CARDS: each row of YtlaobafbdllajaaDoorRows.lean that lists a variable, with what it lists TIED to the program's text (the seventh form; the later family's looks); each row that meets fmt, with fmt's text TOLD by the authors' own Lean function (tested against real Go, not proved from fmt's source: count such statements apart). THE CARD IS WHAT COUNTS. Prove the row's statement (the work); the ties are given (YtlaobafbdllajaaDoorTie.lean); close each card by the builder's one call (the guide's Derived/Test/ToyasCard.lean, 'card_holds'). Laid BY PROGRAM, IN A SANDBOX (cutbox-door.mjs). By AI agents, Wed Nov 11 2026. No macro, syntax, notation, axiom, sorry.
-/
import Derived.Test.YtlaobafbdllajaaDoorRows
import GoSem.ClaimSeven
namespace Go.Proofs.YtlaobafbdllajaaDoor
namespace Rows

/-- THE TIED CARD OF 'mortiselaw22.SfntReads'. -/
def sfntReadsCard : Claim7 := { stood := { row := sfntReadsRow, standIns := [], harness := (true, "971798dd3255802863abe16fe89032a9f02e568fa35465fc2ad82f42eaacef5d"), looks := false }, kinds := [], alts := [], laidByText := true, laidKinds := [.data, .pinned], laidTests := true, laidLooks := .later }
def SfntReadsCardSaid : Prop := Claim7.holds Tryd.pinned (.plain (OpenSpec.ofChange sfntReadsSpec)) sfntReadsCard

/-- THE TIED CARD OF 'mortiselaw22.SfntWrites'. -/
def sfntWritesCard : Claim7 := { stood := { row := sfntWritesRow, standIns := [], harness := (true, "971798dd3255802863abe16fe89032a9f02e568fa35465fc2ad82f42eaacef5d"), looks := false }, kinds := [], alts := [], laidByText := true, laidKinds := [.data, .pinned], laidTests := true, laidLooks := .later }
def SfntWritesCardSaid : Prop := Claim7.holds Tryd.pinned (.plain (OpenSpec.ofChange sfntWritesSpec)) sfntWritesCard

/-- THE TIED CARD OF 'mortiselaw22.SfntBack'. -/
def sfntBackCard : Claim7 := { stood := { row := sfntBackRow, standIns := [], harness := (true, "971798dd3255802863abe16fe89032a9f02e568fa35465fc2ad82f42eaacef5d"), looks := false }, kinds := [], alts := [], laidByText := true, laidKinds := [.data, .pinned], laidTests := true, laidLooks := .later }
def SfntBackCardSaid : Prop := Claim7.holds Tryd.pinned (.plain (OpenSpec.ofChange sfntBackSpec)) sfntBackCard

/-- THE TIED CARD OF 'mortiselaw22.SfntSums'. -/
def sfntSumsCard : Claim7 := { stood := { row := sfntSumsRow, standIns := [], harness := (true, "971798dd3255802863abe16fe89032a9f02e568fa35465fc2ad82f42eaacef5d"), looks := false }, kinds := [], alts := [], laidByText := true, laidKinds := [.data, .pinned], laidTests := true, laidLooks := .later }
def SfntSumsCardSaid : Prop := Claim7.holds Tryd.pinned (.plain (OpenSpec.ofChange sfntSumsSpec)) sfntSumsCard

/-- THE TIED CARD OF 'mortiselaw22.SfntTurned'. -/
def sfntTurnedCard : Claim7 := { stood := { row := sfntTurnedRow, standIns := [], harness := (true, "971798dd3255802863abe16fe89032a9f02e568fa35465fc2ad82f42eaacef5d"), looks := false }, kinds := [], alts := [], laidByText := true, laidKinds := [.data, .pinned], laidTests := true, laidLooks := .later }
def SfntTurnedCardSaid : Prop := Claim7.holds Tryd.pinned (.plain (OpenSpec.ofChange sfntTurnedSpec)) sfntTurnedCard

/-- THE TIED CARD OF 'mortiselaw22.SfntApart'. -/
def sfntApartCard : Claim7 := { stood := { row := sfntApartRow, standIns := [], harness := (true, "971798dd3255802863abe16fe89032a9f02e568fa35465fc2ad82f42eaacef5d"), looks := false }, kinds := [], alts := [], laidByText := true, laidKinds := [.data, .pinned], laidTests := true, laidLooks := .later }
def SfntApartCardSaid : Prop := Claim7.holds Tryd.pinned (.plain (OpenSpec.ofChange sfntApartSpec)) sfntApartCard

/-- THE SECOND FORM's CARD OF 'mortiselaw22.SfntReads'. -/
def sfntReadsUptoCard : Claim7 := { stood := { row := sfntReadsUptoRow, standIns := [], harness := (true, "971798dd3255802863abe16fe89032a9f02e568fa35465fc2ad82f42eaacef5d"), looks := false }, kinds := [], alts := [], laidByText := true, laidKinds := [.data, .pinned], laidTests := true, laidLooks := .later }
def SfntReadsUptoCardSaid : Prop := Claim7.holds Tryd.pinned (.plain (OpenSpec.upto sfntReadsSpec)) sfntReadsUptoCard

/-- THE SECOND FORM's CARD OF 'mortiselaw22.SfntWrites'. -/
def sfntWritesUptoCard : Claim7 := { stood := { row := sfntWritesUptoRow, standIns := [], harness := (true, "971798dd3255802863abe16fe89032a9f02e568fa35465fc2ad82f42eaacef5d"), looks := false }, kinds := [], alts := [], laidByText := true, laidKinds := [.data, .pinned], laidTests := true, laidLooks := .later }
def SfntWritesUptoCardSaid : Prop := Claim7.holds Tryd.pinned (.plain (OpenSpec.upto sfntWritesSpec)) sfntWritesUptoCard

/-- THE SECOND FORM's CARD OF 'mortiselaw22.SfntBack'. -/
def sfntBackUptoCard : Claim7 := { stood := { row := sfntBackUptoRow, standIns := [], harness := (true, "971798dd3255802863abe16fe89032a9f02e568fa35465fc2ad82f42eaacef5d"), looks := false }, kinds := [], alts := [], laidByText := true, laidKinds := [.data, .pinned], laidTests := true, laidLooks := .later }
def SfntBackUptoCardSaid : Prop := Claim7.holds Tryd.pinned (.plain (OpenSpec.upto sfntBackSpec)) sfntBackUptoCard

/-- THE SECOND FORM's CARD OF 'mortiselaw22.SfntSums'. -/
def sfntSumsUptoCard : Claim7 := { stood := { row := sfntSumsUptoRow, standIns := [], harness := (true, "971798dd3255802863abe16fe89032a9f02e568fa35465fc2ad82f42eaacef5d"), looks := false }, kinds := [], alts := [], laidByText := true, laidKinds := [.data, .pinned], laidTests := true, laidLooks := .later }
def SfntSumsUptoCardSaid : Prop := Claim7.holds Tryd.pinned (.plain (OpenSpec.upto sfntSumsSpec)) sfntSumsUptoCard

/-- THE SECOND FORM's CARD OF 'mortiselaw22.SfntTurned'. -/
def sfntTurnedUptoCard : Claim7 := { stood := { row := sfntTurnedUptoRow, standIns := [], harness := (true, "971798dd3255802863abe16fe89032a9f02e568fa35465fc2ad82f42eaacef5d"), looks := false }, kinds := [], alts := [], laidByText := true, laidKinds := [.data, .pinned], laidTests := true, laidLooks := .later }
def SfntTurnedUptoCardSaid : Prop := Claim7.holds Tryd.pinned (.plain (OpenSpec.upto sfntTurnedSpec)) sfntTurnedUptoCard

/-- THE SECOND FORM's CARD OF 'mortiselaw22.SfntApart'. -/
def sfntApartUptoCard : Claim7 := { stood := { row := sfntApartUptoRow, standIns := [], harness := (true, "971798dd3255802863abe16fe89032a9f02e568fa35465fc2ad82f42eaacef5d"), looks := false }, kinds := [], alts := [], laidByText := true, laidKinds := [.data, .pinned], laidTests := true, laidLooks := .later }
def SfntApartUptoCardSaid : Prop := Claim7.holds Tryd.pinned (.plain (OpenSpec.upto sfntApartSpec)) sfntApartUptoCard
end Rows
end Go.Proofs.YtlaobafbdllajaaDoor
