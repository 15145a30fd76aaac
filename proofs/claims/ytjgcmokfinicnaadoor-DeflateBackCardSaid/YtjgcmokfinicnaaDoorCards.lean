/-
  DERIVED. GIVEN WITH THE SEED: THE CARDS: each row of YtjgcmokfinicnaaDoorRows.lean that lists a variable, with what it lists TIED to the program's text (the seventh form; the later family's looks); each row that meets fmt, with fmt's text TOLD by the authors' own Lean function (tested against real Go, not proved from fmt's source: count such statements apart). THE CARD IS WHAT COUNTS. Prove the row's statement (the work); the ties are given (YtjgcmokfinicnaaDoorTie.lean); close each card by the builder's one call (the guide's Derived/Test/ToyasCard.lean, 'card_holds'). Laid BY PROGRAM, IN A SANDBOX (cutbox-door.mjs). By AI agents, Wed Nov 11 2026. No macro, syntax, notation, axiom, sorry.
-/
import Derived.Test.YtjgcmokfinicnaaDoorRows
import GoSem.ClaimSeven
namespace Go.Proofs.YtjgcmokfinicnaaDoor
namespace Rows

/-- THE TIED CARD OF 'mortiselaw09.DeflateStored'. -/
def deflateStoredCard : Claim7 := { stood := { row := deflateStoredRow, standIns := [], harness := (true, "9db1a27b5d78bbc9229af7b1ce8ed828cf43ebffbdff6fb7555ac2d73b17d02a"), looks := true }, kinds := [], alts := [], laidByText := true, laidKinds := [.data], laidTests := true, laidLooks := .later }
def DeflateStoredCardSaid : Prop := Claim7.holds Tryd.pinned (.plain (OpenSpec.ofChange deflateStoredSpec)) deflateStoredCard

/-- THE TIED CARD OF 'mortiselaw09.DeflateFixed'. -/
def deflateFixedCard : Claim7 := { stood := { row := deflateFixedRow, standIns := [], harness := (true, "9db1a27b5d78bbc9229af7b1ce8ed828cf43ebffbdff6fb7555ac2d73b17d02a"), looks := true }, kinds := [], alts := [], laidByText := true, laidKinds := [.data], laidTests := true, laidLooks := .later }
def DeflateFixedCardSaid : Prop := Claim7.holds Tryd.pinned (.plain (OpenSpec.ofChange deflateFixedSpec)) deflateFixedCard

/-- THE TIED CARD OF 'mortiselaw09.DeflateDynamic'. -/
def deflateDynamicCard : Claim7 := { stood := { row := deflateDynamicRow, standIns := [], harness := (true, "9db1a27b5d78bbc9229af7b1ce8ed828cf43ebffbdff6fb7555ac2d73b17d02a"), looks := true }, kinds := [], alts := [], laidByText := true, laidKinds := [.data], laidTests := true, laidLooks := .later }
def DeflateDynamicCardSaid : Prop := Claim7.holds Tryd.pinned (.plain (OpenSpec.ofChange deflateDynamicSpec)) deflateDynamicCard

/-- THE TIED CARD OF 'mortiselaw09.DeflateBack'. -/
def deflateBackCard : Claim7 := { stood := { row := deflateBackRow, standIns := [], harness := (true, "9db1a27b5d78bbc9229af7b1ce8ed828cf43ebffbdff6fb7555ac2d73b17d02a"), looks := true }, kinds := [], alts := [], laidByText := true, laidKinds := [.data], laidTests := true, laidLooks := .later }
def DeflateBackCardSaid : Prop := Claim7.holds Tryd.pinned (.plain (OpenSpec.ofChange deflateBackSpec)) deflateBackCard

/-- THE TIED CARD OF 'mortiselaw09.DeflateAgain'. -/
def deflateAgainCard : Claim7 := { stood := { row := deflateAgainRow, standIns := [], harness := (true, "9db1a27b5d78bbc9229af7b1ce8ed828cf43ebffbdff6fb7555ac2d73b17d02a"), looks := true }, kinds := [], alts := [], laidByText := true, laidKinds := [.data], laidTests := true, laidLooks := .later }
def DeflateAgainCardSaid : Prop := Claim7.holds Tryd.pinned (.plain (OpenSpec.ofChange deflateAgainSpec)) deflateAgainCard

/-- THE TIED CARD OF 'mortiselaw09.DeflateInflate'. -/
def deflateInflateCard : Claim7 := { stood := { row := deflateInflateRow, standIns := [], harness := (true, "9db1a27b5d78bbc9229af7b1ce8ed828cf43ebffbdff6fb7555ac2d73b17d02a"), looks := true }, kinds := [], alts := [], laidByText := true, laidKinds := [.data, .data, .data, .data], laidTests := true, laidLooks := .later }
def DeflateInflateCardSaid : Prop := Claim7.holds Tryd.pinned (.plain (OpenSpec.ofChange deflateInflateSpec)) deflateInflateCard

/-- THE SECOND FORM's CARD OF 'mortiselaw09.DeflateStored'. -/
def deflateStoredUptoCard : Claim7 := { stood := { row := deflateStoredUptoRow, standIns := [], harness := (true, "9db1a27b5d78bbc9229af7b1ce8ed828cf43ebffbdff6fb7555ac2d73b17d02a"), looks := true }, kinds := [], alts := [], laidByText := true, laidKinds := [.data], laidTests := true, laidLooks := .later }
def DeflateStoredUptoCardSaid : Prop := Claim7.holds Tryd.pinned (.plain (OpenSpec.upto deflateStoredSpec)) deflateStoredUptoCard

/-- THE SECOND FORM's CARD OF 'mortiselaw09.DeflateFixed'. -/
def deflateFixedUptoCard : Claim7 := { stood := { row := deflateFixedUptoRow, standIns := [], harness := (true, "9db1a27b5d78bbc9229af7b1ce8ed828cf43ebffbdff6fb7555ac2d73b17d02a"), looks := true }, kinds := [], alts := [], laidByText := true, laidKinds := [.data], laidTests := true, laidLooks := .later }
def DeflateFixedUptoCardSaid : Prop := Claim7.holds Tryd.pinned (.plain (OpenSpec.upto deflateFixedSpec)) deflateFixedUptoCard

/-- THE SECOND FORM's CARD OF 'mortiselaw09.DeflateDynamic'. -/
def deflateDynamicUptoCard : Claim7 := { stood := { row := deflateDynamicUptoRow, standIns := [], harness := (true, "9db1a27b5d78bbc9229af7b1ce8ed828cf43ebffbdff6fb7555ac2d73b17d02a"), looks := true }, kinds := [], alts := [], laidByText := true, laidKinds := [.data], laidTests := true, laidLooks := .later }
def DeflateDynamicUptoCardSaid : Prop := Claim7.holds Tryd.pinned (.plain (OpenSpec.upto deflateDynamicSpec)) deflateDynamicUptoCard

/-- THE SECOND FORM's CARD OF 'mortiselaw09.DeflateBack'. -/
def deflateBackUptoCard : Claim7 := { stood := { row := deflateBackUptoRow, standIns := [], harness := (true, "9db1a27b5d78bbc9229af7b1ce8ed828cf43ebffbdff6fb7555ac2d73b17d02a"), looks := true }, kinds := [], alts := [], laidByText := true, laidKinds := [.data], laidTests := true, laidLooks := .later }
def DeflateBackUptoCardSaid : Prop := Claim7.holds Tryd.pinned (.plain (OpenSpec.upto deflateBackSpec)) deflateBackUptoCard

/-- THE SECOND FORM's CARD OF 'mortiselaw09.DeflateAgain'. -/
def deflateAgainUptoCard : Claim7 := { stood := { row := deflateAgainUptoRow, standIns := [], harness := (true, "9db1a27b5d78bbc9229af7b1ce8ed828cf43ebffbdff6fb7555ac2d73b17d02a"), looks := true }, kinds := [], alts := [], laidByText := true, laidKinds := [.data], laidTests := true, laidLooks := .later }
def DeflateAgainUptoCardSaid : Prop := Claim7.holds Tryd.pinned (.plain (OpenSpec.upto deflateAgainSpec)) deflateAgainUptoCard

/-- THE SECOND FORM's CARD OF 'mortiselaw09.DeflateInflate'. -/
def deflateInflateUptoCard : Claim7 := { stood := { row := deflateInflateUptoRow, standIns := [], harness := (true, "9db1a27b5d78bbc9229af7b1ce8ed828cf43ebffbdff6fb7555ac2d73b17d02a"), looks := true }, kinds := [], alts := [], laidByText := true, laidKinds := [.data, .data, .data, .data], laidTests := true, laidLooks := .later }
def DeflateInflateUptoCardSaid : Prop := Claim7.holds Tryd.pinned (.plain (OpenSpec.upto deflateInflateSpec)) deflateInflateUptoCard
end Rows
end Go.Proofs.YtjgcmokfinicnaaDoor
