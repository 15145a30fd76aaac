/-
  NARROWER THAN 'FOR EVERY INPUT', by the rows' own cells (each row's printed sentence says how): ElfReads: laid · ElfWrites: laid · ElfBack: laid · ElfBehind: laid · ElfCut: laid · ElfHeads: laid.
  DERIVED. THE GIVEN ROWS OF THIS SEAT. 6 by the template 'for every input the law returns true; each argument reads behind the call as it read before'; 0 by the template 'total and deterministic' (their statements: YthoecbfhfglmpaaDoorTotals.lean).
  GIVEN WITH THE SEED: the statements are not yours to turn. If you find one false, say at which input.
  Laid BY PROGRAM, IN A SANDBOX (cutbox-rows.mjs): the forced cells as the released guide's own fill.sh prints them over the translation 1ee517b2bdd5c33b… (all of the seat's roots in one cut). By AI agents, Wed Nov 11 2026. No macro, syntax, notation, axiom, sorry.
-/
import Derived.Test.YthoecbfhfglmpaaDoorChecked
import GoSem.PinnedTables
import GoSem.Claim
import GoSem.ClaimJoined
import GoSem.ClaimMapViews
import Derived.JoinedTies
import Derived.KernelRfl
namespace Go.Proofs.YthoecbfhfglmpaaDoor
/- THE CELL 'sum', in the pinned program and in every row, IS THE sha256 OF THE DUMP (.gsa) THAT YthoecbfhfglmpaaDoorProg.lean LOADS. Nothing in Lean hashes anything: it is a label: what it is worth is what the hold of that sum in a sandbox is worth. -/
noncomputable def Tryd.pinned : Pinned := { name := "ythoecbfhfglmpaadoor", sum := "1ee517b2bdd5c33bde86d4124278b498d7143bc98f737296e5800c74b7fa80ae", checked := Tryd.checked }
namespace Rows
def none {H : Type} : Left H := { results := [], args := [] }

/- WHAT THE LISTED PACKAGE-LEVEL VARIABLES READ AS WHEN THE CALL BEGINS. Each datum BY PROGRAM (the guide's laid-datum.mjs) off the statement by which the dump's own 'gosem.cut.vars' lays the variable. In a bare row this is a premise. The card (YthoecbfhfglmpaaDoorCards.lean) ties it to the program's text. -/
def laid_unicode_utf8_acceptRanges {H : Type} : DataW H := .agg [.agg [.lit (.int .u8 128), .lit (.int .u8 191)], .agg [.lit (.int .u8 160), .lit (.int .u8 191)], .agg [.lit (.int .u8 128), .lit (.int .u8 159)], .agg [.lit (.int .u8 144), .lit (.int .u8 191)], .agg [.lit (.int .u8 128), .lit (.int .u8 143)], .agg [.lit (.int .u8 0), .lit (.int .u8 0)], .agg [.lit (.int .u8 0), .lit (.int .u8 0)], .agg [.lit (.int .u8 0), .lit (.int .u8 0)], .agg [.lit (.int .u8 0), .lit (.int .u8 0)], .agg [.lit (.int .u8 0), .lit (.int .u8 0)], .agg [.lit (.int .u8 0), .lit (.int .u8 0)], .agg [.lit (.int .u8 0), .lit (.int .u8 0)], .agg [.lit (.int .u8 0), .lit (.int .u8 0)], .agg [.lit (.int .u8 0), .lit (.int .u8 0)], .agg [.lit (.int .u8 0), .lit (.int .u8 0)], .agg [.lit (.int .u8 0), .lit (.int .u8 0)]]
/-- One of Go's own tables, pinned by name: the form's constant. -/
def laid_unicode_utf8_first : DataW Unit := Go.Pinned.utf8First

/-- 'mortiselaw20.ElfReads': WHATEVER THE INPUT: true; the input reads as it did. -/
def elfReadsSpec : ChangeSpec := { name := "elfReads", fn := fun _ => fun
  | [d] => { results := [.lit (.bool true)], args := [d] }
  | _ => none }
def elfReadsRow : OpenClaim := { program := "ythoecbfhfglmpaadoor", sum := "1ee517b2bdd5c33bde86d4124278b498d7143bc98f737296e5800c74b7fa80ae", func := "mortise/mortiselaw20.ElfReads", spec := "elfReads", inPlace := ["internal/bytealg.IndexByteString", "internal/bytealg.IndexString", "internal/abi.NoEscape", "internal/bytealg.MakeNoZero"], unfollowed := true, recurses := true, named := ["internal/bytealg.MaxLen", "unicode/utf8.first", "unicode/utf8.acceptRanges"], apart := false, laid := [("unicode/utf8.acceptRanges", laid_unicode_utf8_acceptRanges), ("unicode/utf8.first", laid_unicode_utf8_first)] }
def ElfReadsSaid : Prop := elfReadsRow.holds Tryd.pinned (OpenSpec.ofChange elfReadsSpec)

/-- ITS FALSE NEIGHBOUR: 'it returns false'. Refute it at one input. -/
def elfReadsWrong : ChangeSpec := { name := "elfReads", fn := fun _ => fun
  | [d] => { results := [.lit (.bool false)], args := [d] }
  | _ => none }
def ElfReadsWrongFalsely : Prop := elfReadsRow.holds Tryd.pinned (OpenSpec.ofChange elfReadsWrong)

/-- 'mortiselaw20.ElfWrites': WHATEVER THE INPUT: true; the input reads as it did. -/
def elfWritesSpec : ChangeSpec := { name := "elfWrites", fn := fun _ => fun
  | [d] => { results := [.lit (.bool true)], args := [d] }
  | _ => none }
def elfWritesRow : OpenClaim := { program := "ythoecbfhfglmpaadoor", sum := "1ee517b2bdd5c33bde86d4124278b498d7143bc98f737296e5800c74b7fa80ae", func := "mortise/mortiselaw20.ElfWrites", spec := "elfWrites", inPlace := ["internal/bytealg.IndexByteString", "internal/bytealg.IndexString", "internal/abi.NoEscape", "internal/bytealg.MakeNoZero"], unfollowed := true, recurses := true, named := ["internal/bytealg.MaxLen", "unicode/utf8.first", "unicode/utf8.acceptRanges"], apart := false, laid := [("unicode/utf8.acceptRanges", laid_unicode_utf8_acceptRanges), ("unicode/utf8.first", laid_unicode_utf8_first)] }
def ElfWritesSaid : Prop := elfWritesRow.holds Tryd.pinned (OpenSpec.ofChange elfWritesSpec)

/-- ITS FALSE NEIGHBOUR: 'it returns false'. Refute it at one input. -/
def elfWritesWrong : ChangeSpec := { name := "elfWrites", fn := fun _ => fun
  | [d] => { results := [.lit (.bool false)], args := [d] }
  | _ => none }
def ElfWritesWrongFalsely : Prop := elfWritesRow.holds Tryd.pinned (OpenSpec.ofChange elfWritesWrong)

/-- 'mortiselaw20.ElfBack': WHATEVER THE INPUT: true; the input reads as it did. -/
def elfBackSpec : ChangeSpec := { name := "elfBack", fn := fun _ => fun
  | [d] => { results := [.lit (.bool true)], args := [d] }
  | _ => none }
def elfBackRow : OpenClaim := { program := "ythoecbfhfglmpaadoor", sum := "1ee517b2bdd5c33bde86d4124278b498d7143bc98f737296e5800c74b7fa80ae", func := "mortise/mortiselaw20.ElfBack", spec := "elfBack", inPlace := ["internal/bytealg.IndexByteString", "internal/bytealg.IndexString", "internal/abi.NoEscape", "internal/bytealg.MakeNoZero"], unfollowed := true, recurses := true, named := ["internal/bytealg.MaxLen", "unicode/utf8.first", "unicode/utf8.acceptRanges"], apart := false, laid := [("unicode/utf8.acceptRanges", laid_unicode_utf8_acceptRanges), ("unicode/utf8.first", laid_unicode_utf8_first)] }
def ElfBackSaid : Prop := elfBackRow.holds Tryd.pinned (OpenSpec.ofChange elfBackSpec)

/-- ITS FALSE NEIGHBOUR: 'it returns false'. Refute it at one input. -/
def elfBackWrong : ChangeSpec := { name := "elfBack", fn := fun _ => fun
  | [d] => { results := [.lit (.bool false)], args := [d] }
  | _ => none }
def ElfBackWrongFalsely : Prop := elfBackRow.holds Tryd.pinned (OpenSpec.ofChange elfBackWrong)

/-- 'mortiselaw20.ElfBehind': WHATEVER THE INPUT: true; the input reads as it did. -/
def elfBehindSpec : ChangeSpec := { name := "elfBehind", fn := fun _ => fun
  | [d1, d2] => { results := [.lit (.bool true)], args := [d1, d2] }
  | _ => none }
def elfBehindRow : OpenClaim := { program := "ythoecbfhfglmpaadoor", sum := "1ee517b2bdd5c33bde86d4124278b498d7143bc98f737296e5800c74b7fa80ae", func := "mortise/mortiselaw20.ElfBehind", spec := "elfBehind", inPlace := ["internal/bytealg.IndexByteString", "internal/bytealg.IndexString", "internal/abi.NoEscape", "internal/bytealg.MakeNoZero"], unfollowed := true, recurses := true, named := ["internal/bytealg.MaxLen", "unicode/utf8.first", "unicode/utf8.acceptRanges"], apart := false, laid := [("unicode/utf8.acceptRanges", laid_unicode_utf8_acceptRanges), ("unicode/utf8.first", laid_unicode_utf8_first)] }
def ElfBehindSaid : Prop := elfBehindRow.holds Tryd.pinned (OpenSpec.ofChange elfBehindSpec)

/-- ITS FALSE NEIGHBOUR: 'it returns false'. Refute it at one input. -/
def elfBehindWrong : ChangeSpec := { name := "elfBehind", fn := fun _ => fun
  | [d1, d2] => { results := [.lit (.bool false)], args := [d1, d2] }
  | _ => none }
def ElfBehindWrongFalsely : Prop := elfBehindRow.holds Tryd.pinned (OpenSpec.ofChange elfBehindWrong)

/-- 'mortiselaw20.ElfCut': WHATEVER THE INPUT: true; the input reads as it did. -/
def elfCutSpec : ChangeSpec := { name := "elfCut", fn := fun _ => fun
  | [d1, d2] => { results := [.lit (.bool true)], args := [d1, d2] }
  | _ => none }
def elfCutRow : OpenClaim := { program := "ythoecbfhfglmpaadoor", sum := "1ee517b2bdd5c33bde86d4124278b498d7143bc98f737296e5800c74b7fa80ae", func := "mortise/mortiselaw20.ElfCut", spec := "elfCut", inPlace := ["internal/bytealg.IndexByteString", "internal/bytealg.IndexString", "internal/abi.NoEscape", "internal/bytealg.MakeNoZero"], unfollowed := true, recurses := true, named := ["internal/bytealg.MaxLen", "unicode/utf8.first", "unicode/utf8.acceptRanges"], apart := false, laid := [("unicode/utf8.acceptRanges", laid_unicode_utf8_acceptRanges), ("unicode/utf8.first", laid_unicode_utf8_first)] }
def ElfCutSaid : Prop := elfCutRow.holds Tryd.pinned (OpenSpec.ofChange elfCutSpec)

/-- ITS FALSE NEIGHBOUR: 'it returns false'. Refute it at one input. -/
def elfCutWrong : ChangeSpec := { name := "elfCut", fn := fun _ => fun
  | [d1, d2] => { results := [.lit (.bool false)], args := [d1, d2] }
  | _ => none }
def ElfCutWrongFalsely : Prop := elfCutRow.holds Tryd.pinned (OpenSpec.ofChange elfCutWrong)

/-- 'mortiselaw20.ElfHeads': WHATEVER THE INPUT: true; the input reads as it did. -/
def elfHeadsSpec : ChangeSpec := { name := "elfHeads", fn := fun _ => fun
  | [d1, d2, d3] => { results := [.lit (.bool true)], args := [d1, d2, d3] }
  | _ => none }
def elfHeadsRow : OpenClaim := { program := "ythoecbfhfglmpaadoor", sum := "1ee517b2bdd5c33bde86d4124278b498d7143bc98f737296e5800c74b7fa80ae", func := "mortise/mortiselaw20.ElfHeads", spec := "elfHeads", inPlace := ["internal/bytealg.IndexByteString", "internal/bytealg.IndexString", "internal/abi.NoEscape", "internal/bytealg.MakeNoZero"], unfollowed := true, recurses := true, named := ["internal/bytealg.MaxLen", "unicode/utf8.first", "unicode/utf8.acceptRanges"], apart := false, laid := [("unicode/utf8.acceptRanges", laid_unicode_utf8_acceptRanges), ("unicode/utf8.first", laid_unicode_utf8_first)] }
def ElfHeadsSaid : Prop := elfHeadsRow.holds Tryd.pinned (OpenSpec.ofChange elfHeadsSpec)

/-- ITS FALSE NEIGHBOUR: 'it returns false'. Refute it at one input. -/
def elfHeadsWrong : ChangeSpec := { name := "elfHeads", fn := fun _ => fun
  | [d1, d2, d3] => { results := [.lit (.bool false)], args := [d1, d2, d3] }
  | _ => none }
def ElfHeadsWrongFalsely : Prop := elfHeadsRow.holds Tryd.pinned (OpenSpec.ofChange elfHeadsWrong)

/- THE SECOND FORM. 'bulk': how many values and letters a reading holds, each counted each time it is reached (what is shared counts as often as it is met; a slice's spare places count too). A statement '..UptoSaid' is the law's where the arguments, and the package variables that the reading takes, are together of bulk at most 1048576: NARROWER than '..Said'. Prove '..Said' where nothing that the law and all that it calls make is longer than what came in: it says more and counts as full. Else prove '..UptoSaid'. A law counts once. -/
mutual
def uptoBulk {H : Type} : DataW H → Nat
  | .lit (.string bytes) => bytes.length + 1
  | .lit _ => 1
  | .nil => 1
  | .ptr d => uptoBulk d + 1
  | .slice elems spare => uptoBulkAll elems + uptoBulkAll spare + 1
  | .agg parts => uptoBulkAll parts + 1
  | .iface _ d => uptoBulk d + 1
  | .map entries => uptoBulkEntries entries + 1
  | .held _ => 1
def uptoBulkAll {H : Type} : List (DataW H) → Nat
  | [] => 0
  | d :: r => uptoBulk d + uptoBulkAll r
def uptoBulkEntries {H : Type} : List (Lit × DataW H) → Nat
  | [] => 0
  | x :: r => uptoBulkEntry x + uptoBulkEntries r
def uptoBulkEntry {H : Type} : Lit × DataW H → Nat
  | (.string bytes, d) => bytes.length + uptoBulk d + 1
  | (_, d) => uptoBulk d + 1
 end
def uptoSmall : (H : Type) → List (DataW H) → Bool := fun _ ds => decide (uptoBulkAll ds ≤ 1048576)
def OpenSpec.upto (s : _root_.Go.ChangeSpec) : _root_.Go.OpenSpec := { _root_.Go.OpenSpec.ofChange s with cond := some uptoSmall }

/-- 'mortiselaw20.ElfReads', WHERE WHAT IT READS IS OF BULK AT MOST 1048576: true; the input reads as it did. -/
def elfReadsUptoRow : OpenClaim := { program := "ythoecbfhfglmpaadoor", sum := "1ee517b2bdd5c33bde86d4124278b498d7143bc98f737296e5800c74b7fa80ae", func := "mortise/mortiselaw20.ElfReads", spec := "elfReads", inPlace := ["internal/bytealg.IndexByteString", "internal/bytealg.IndexString", "internal/abi.NoEscape", "internal/bytealg.MakeNoZero"], unfollowed := true, recurses := true, named := ["internal/bytealg.MaxLen", "unicode/utf8.first", "unicode/utf8.acceptRanges"], apart := false, laid := [("unicode/utf8.acceptRanges", laid_unicode_utf8_acceptRanges), ("unicode/utf8.first", laid_unicode_utf8_first)], narrowed := true }
def ElfReadsUptoSaid : Prop := elfReadsUptoRow.holds Tryd.pinned (OpenSpec.upto elfReadsSpec)

/-- 'mortiselaw20.ElfWrites', WHERE WHAT IT READS IS OF BULK AT MOST 1048576: true; the input reads as it did. -/
def elfWritesUptoRow : OpenClaim := { program := "ythoecbfhfglmpaadoor", sum := "1ee517b2bdd5c33bde86d4124278b498d7143bc98f737296e5800c74b7fa80ae", func := "mortise/mortiselaw20.ElfWrites", spec := "elfWrites", inPlace := ["internal/bytealg.IndexByteString", "internal/bytealg.IndexString", "internal/abi.NoEscape", "internal/bytealg.MakeNoZero"], unfollowed := true, recurses := true, named := ["internal/bytealg.MaxLen", "unicode/utf8.first", "unicode/utf8.acceptRanges"], apart := false, laid := [("unicode/utf8.acceptRanges", laid_unicode_utf8_acceptRanges), ("unicode/utf8.first", laid_unicode_utf8_first)], narrowed := true }
def ElfWritesUptoSaid : Prop := elfWritesUptoRow.holds Tryd.pinned (OpenSpec.upto elfWritesSpec)

/-- 'mortiselaw20.ElfBack', WHERE WHAT IT READS IS OF BULK AT MOST 1048576: true; the input reads as it did. -/
def elfBackUptoRow : OpenClaim := { program := "ythoecbfhfglmpaadoor", sum := "1ee517b2bdd5c33bde86d4124278b498d7143bc98f737296e5800c74b7fa80ae", func := "mortise/mortiselaw20.ElfBack", spec := "elfBack", inPlace := ["internal/bytealg.IndexByteString", "internal/bytealg.IndexString", "internal/abi.NoEscape", "internal/bytealg.MakeNoZero"], unfollowed := true, recurses := true, named := ["internal/bytealg.MaxLen", "unicode/utf8.first", "unicode/utf8.acceptRanges"], apart := false, laid := [("unicode/utf8.acceptRanges", laid_unicode_utf8_acceptRanges), ("unicode/utf8.first", laid_unicode_utf8_first)], narrowed := true }
def ElfBackUptoSaid : Prop := elfBackUptoRow.holds Tryd.pinned (OpenSpec.upto elfBackSpec)

/-- 'mortiselaw20.ElfBehind', WHERE WHAT IT READS IS OF BULK AT MOST 1048576: true; the input reads as it did. -/
def elfBehindUptoRow : OpenClaim := { program := "ythoecbfhfglmpaadoor", sum := "1ee517b2bdd5c33bde86d4124278b498d7143bc98f737296e5800c74b7fa80ae", func := "mortise/mortiselaw20.ElfBehind", spec := "elfBehind", inPlace := ["internal/bytealg.IndexByteString", "internal/bytealg.IndexString", "internal/abi.NoEscape", "internal/bytealg.MakeNoZero"], unfollowed := true, recurses := true, named := ["internal/bytealg.MaxLen", "unicode/utf8.first", "unicode/utf8.acceptRanges"], apart := false, laid := [("unicode/utf8.acceptRanges", laid_unicode_utf8_acceptRanges), ("unicode/utf8.first", laid_unicode_utf8_first)], narrowed := true }
def ElfBehindUptoSaid : Prop := elfBehindUptoRow.holds Tryd.pinned (OpenSpec.upto elfBehindSpec)

/-- 'mortiselaw20.ElfCut', WHERE WHAT IT READS IS OF BULK AT MOST 1048576: true; the input reads as it did. -/
def elfCutUptoRow : OpenClaim := { program := "ythoecbfhfglmpaadoor", sum := "1ee517b2bdd5c33bde86d4124278b498d7143bc98f737296e5800c74b7fa80ae", func := "mortise/mortiselaw20.ElfCut", spec := "elfCut", inPlace := ["internal/bytealg.IndexByteString", "internal/bytealg.IndexString", "internal/abi.NoEscape", "internal/bytealg.MakeNoZero"], unfollowed := true, recurses := true, named := ["internal/bytealg.MaxLen", "unicode/utf8.first", "unicode/utf8.acceptRanges"], apart := false, laid := [("unicode/utf8.acceptRanges", laid_unicode_utf8_acceptRanges), ("unicode/utf8.first", laid_unicode_utf8_first)], narrowed := true }
def ElfCutUptoSaid : Prop := elfCutUptoRow.holds Tryd.pinned (OpenSpec.upto elfCutSpec)

/-- 'mortiselaw20.ElfHeads', WHERE WHAT IT READS IS OF BULK AT MOST 1048576: true; the input reads as it did. -/
def elfHeadsUptoRow : OpenClaim := { program := "ythoecbfhfglmpaadoor", sum := "1ee517b2bdd5c33bde86d4124278b498d7143bc98f737296e5800c74b7fa80ae", func := "mortise/mortiselaw20.ElfHeads", spec := "elfHeads", inPlace := ["internal/bytealg.IndexByteString", "internal/bytealg.IndexString", "internal/abi.NoEscape", "internal/bytealg.MakeNoZero"], unfollowed := true, recurses := true, named := ["internal/bytealg.MaxLen", "unicode/utf8.first", "unicode/utf8.acceptRanges"], apart := false, laid := [("unicode/utf8.acceptRanges", laid_unicode_utf8_acceptRanges), ("unicode/utf8.first", laid_unicode_utf8_first)], narrowed := true }
def ElfHeadsUptoSaid : Prop := elfHeadsUptoRow.holds Tryd.pinned (OpenSpec.upto elfHeadsSpec)

end Rows
end Go.Proofs.YthoecbfhfglmpaaDoor
