/-
  DERIVED. GIVEN WITH THE SEED: THE CARDS: each row of YthoecbfhfglmpaaDoorRows.lean that lists a variable, with what it lists TIED to the program's text (the seventh form; the later family's looks); each row that meets fmt, with fmt's text TOLD by the authors' own Lean function (tested against real Go, not proved from fmt's source: count such statements apart). THE CARD IS WHAT COUNTS. Prove the row's statement (the work); the ties are given (YthoecbfhfglmpaaDoorTie.lean); close each card by the builder's one call (the guide's Derived/Test/ToyasCard.lean, 'card_holds'). Laid BY PROGRAM, IN A SANDBOX (cutbox-door.mjs). By AI agents, Wed Nov 11 2026. No macro, syntax, notation, axiom, sorry.
-/
import Derived.Test.YthoecbfhfglmpaaDoorRows
import GoSem.ClaimSeven
namespace Go.Proofs.YthoecbfhfglmpaaDoor
namespace Rows

/-- THE TIED CARD OF 'mortiselaw20.ElfReads'. -/
def elfReadsCard : Claim7 := { stood := { row := elfReadsRow, standIns := [], harness := (true, "2c5f805fa1550eef2f5a29425ecbf4cb4889ac26e5f73e4ffa62ff327461e992"), looks := true }, kinds := [], alts := [], laidByText := true, laidKinds := [.data, .pinned], laidTests := true, laidLooks := .later }
def ElfReadsCardSaid : Prop := Claim7.holds Tryd.pinned (.plain (OpenSpec.ofChange elfReadsSpec)) elfReadsCard

/-- THE TIED CARD OF 'mortiselaw20.ElfWrites'. -/
def elfWritesCard : Claim7 := { stood := { row := elfWritesRow, standIns := [], harness := (true, "2c5f805fa1550eef2f5a29425ecbf4cb4889ac26e5f73e4ffa62ff327461e992"), looks := true }, kinds := [], alts := [], laidByText := true, laidKinds := [.data, .pinned], laidTests := true, laidLooks := .later }
def ElfWritesCardSaid : Prop := Claim7.holds Tryd.pinned (.plain (OpenSpec.ofChange elfWritesSpec)) elfWritesCard

/-- THE TIED CARD OF 'mortiselaw20.ElfBack'. -/
def elfBackCard : Claim7 := { stood := { row := elfBackRow, standIns := [], harness := (true, "2c5f805fa1550eef2f5a29425ecbf4cb4889ac26e5f73e4ffa62ff327461e992"), looks := true }, kinds := [], alts := [], laidByText := true, laidKinds := [.data, .pinned], laidTests := true, laidLooks := .later }
def ElfBackCardSaid : Prop := Claim7.holds Tryd.pinned (.plain (OpenSpec.ofChange elfBackSpec)) elfBackCard

/-- THE TIED CARD OF 'mortiselaw20.ElfBehind'. -/
def elfBehindCard : Claim7 := { stood := { row := elfBehindRow, standIns := [], harness := (true, "2c5f805fa1550eef2f5a29425ecbf4cb4889ac26e5f73e4ffa62ff327461e992"), looks := true }, kinds := [], alts := [], laidByText := true, laidKinds := [.data, .pinned], laidTests := true, laidLooks := .later }
def ElfBehindCardSaid : Prop := Claim7.holds Tryd.pinned (.plain (OpenSpec.ofChange elfBehindSpec)) elfBehindCard

/-- THE TIED CARD OF 'mortiselaw20.ElfCut'. -/
def elfCutCard : Claim7 := { stood := { row := elfCutRow, standIns := [], harness := (true, "2c5f805fa1550eef2f5a29425ecbf4cb4889ac26e5f73e4ffa62ff327461e992"), looks := true }, kinds := [], alts := [], laidByText := true, laidKinds := [.data, .pinned], laidTests := true, laidLooks := .later }
def ElfCutCardSaid : Prop := Claim7.holds Tryd.pinned (.plain (OpenSpec.ofChange elfCutSpec)) elfCutCard

/-- THE TIED CARD OF 'mortiselaw20.ElfHeads'. -/
def elfHeadsCard : Claim7 := { stood := { row := elfHeadsRow, standIns := [], harness := (true, "2c5f805fa1550eef2f5a29425ecbf4cb4889ac26e5f73e4ffa62ff327461e992"), looks := true }, kinds := [], alts := [], laidByText := true, laidKinds := [.data, .pinned], laidTests := true, laidLooks := .later }
def ElfHeadsCardSaid : Prop := Claim7.holds Tryd.pinned (.plain (OpenSpec.ofChange elfHeadsSpec)) elfHeadsCard

/-- THE SECOND FORM's CARD OF 'mortiselaw20.ElfReads'. -/
def elfReadsUptoCard : Claim7 := { stood := { row := elfReadsUptoRow, standIns := [], harness := (true, "2c5f805fa1550eef2f5a29425ecbf4cb4889ac26e5f73e4ffa62ff327461e992"), looks := true }, kinds := [], alts := [], laidByText := true, laidKinds := [.data, .pinned], laidTests := true, laidLooks := .later }
def ElfReadsUptoCardSaid : Prop := Claim7.holds Tryd.pinned (.plain (OpenSpec.upto elfReadsSpec)) elfReadsUptoCard

/-- THE SECOND FORM's CARD OF 'mortiselaw20.ElfWrites'. -/
def elfWritesUptoCard : Claim7 := { stood := { row := elfWritesUptoRow, standIns := [], harness := (true, "2c5f805fa1550eef2f5a29425ecbf4cb4889ac26e5f73e4ffa62ff327461e992"), looks := true }, kinds := [], alts := [], laidByText := true, laidKinds := [.data, .pinned], laidTests := true, laidLooks := .later }
def ElfWritesUptoCardSaid : Prop := Claim7.holds Tryd.pinned (.plain (OpenSpec.upto elfWritesSpec)) elfWritesUptoCard

/-- THE SECOND FORM's CARD OF 'mortiselaw20.ElfBack'. -/
def elfBackUptoCard : Claim7 := { stood := { row := elfBackUptoRow, standIns := [], harness := (true, "2c5f805fa1550eef2f5a29425ecbf4cb4889ac26e5f73e4ffa62ff327461e992"), looks := true }, kinds := [], alts := [], laidByText := true, laidKinds := [.data, .pinned], laidTests := true, laidLooks := .later }
def ElfBackUptoCardSaid : Prop := Claim7.holds Tryd.pinned (.plain (OpenSpec.upto elfBackSpec)) elfBackUptoCard

/-- THE SECOND FORM's CARD OF 'mortiselaw20.ElfBehind'. -/
def elfBehindUptoCard : Claim7 := { stood := { row := elfBehindUptoRow, standIns := [], harness := (true, "2c5f805fa1550eef2f5a29425ecbf4cb4889ac26e5f73e4ffa62ff327461e992"), looks := true }, kinds := [], alts := [], laidByText := true, laidKinds := [.data, .pinned], laidTests := true, laidLooks := .later }
def ElfBehindUptoCardSaid : Prop := Claim7.holds Tryd.pinned (.plain (OpenSpec.upto elfBehindSpec)) elfBehindUptoCard

/-- THE SECOND FORM's CARD OF 'mortiselaw20.ElfCut'. -/
def elfCutUptoCard : Claim7 := { stood := { row := elfCutUptoRow, standIns := [], harness := (true, "2c5f805fa1550eef2f5a29425ecbf4cb4889ac26e5f73e4ffa62ff327461e992"), looks := true }, kinds := [], alts := [], laidByText := true, laidKinds := [.data, .pinned], laidTests := true, laidLooks := .later }
def ElfCutUptoCardSaid : Prop := Claim7.holds Tryd.pinned (.plain (OpenSpec.upto elfCutSpec)) elfCutUptoCard

/-- THE SECOND FORM's CARD OF 'mortiselaw20.ElfHeads'. -/
def elfHeadsUptoCard : Claim7 := { stood := { row := elfHeadsUptoRow, standIns := [], harness := (true, "2c5f805fa1550eef2f5a29425ecbf4cb4889ac26e5f73e4ffa62ff327461e992"), looks := true }, kinds := [], alts := [], laidByText := true, laidKinds := [.data, .pinned], laidTests := true, laidLooks := .later }
def ElfHeadsUptoCardSaid : Prop := Claim7.holds Tryd.pinned (.plain (OpenSpec.upto elfHeadsSpec)) elfHeadsUptoCard
end Rows
end Go.Proofs.YthoecbfhfglmpaaDoor
