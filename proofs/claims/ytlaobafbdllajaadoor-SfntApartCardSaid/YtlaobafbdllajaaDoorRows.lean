/-
  NARROWER THAN 'FOR EVERY INPUT', by the rows' own cells (each row's printed sentence says how): SfntReads: laid · SfntWrites: laid · SfntBack: laid · SfntSums: laid · SfntTurned: laid · SfntApart: laid.
  DERIVED. THE GIVEN ROWS OF THIS SEAT. 6 by the template 'for every input the law returns true; each argument reads behind the call as it read before'; 0 by the template 'total and deterministic' (their statements: YtlaobafbdllajaaDoorTotals.lean).
  GIVEN WITH THE SEED: the statements are not yours to turn. If you find one false, say at which input.
  Laid BY PROGRAM, IN A SANDBOX (cutbox-rows.mjs): the forced cells as the released guide's own fill.sh prints them over the translation 92cbd8e5de2aef68… (all of the seat's roots in one cut). By AI agents, Wed Nov 11 2026. No macro, syntax, notation, axiom, sorry.
-/
import Derived.Test.YtlaobafbdllajaaDoorChecked
import GoSem.PinnedTables
import GoSem.Claim
import GoSem.ClaimJoined
import GoSem.ClaimMapViews
import Derived.JoinedTies
import Derived.KernelRfl
namespace Go.Proofs.YtlaobafbdllajaaDoor
/- THE CELL 'sum', in the pinned program and in every row, IS THE sha256 OF THE DUMP (.gsa) THAT YtlaobafbdllajaaDoorProg.lean LOADS. Nothing in Lean hashes anything: it is a label: what it is worth is what the hold of that sum in a sandbox is worth. -/
noncomputable def Tryd.pinned : Pinned := { name := "ytlaobafbdllajaadoor", sum := "92cbd8e5de2aef6818171c5be4e59f15286dfa2b8b2b12c729da0afc678ca92d", checked := Tryd.checked }
namespace Rows
def none {H : Type} : Left H := { results := [], args := [] }

/- WHAT THE LISTED PACKAGE-LEVEL VARIABLES READ AS WHEN THE CALL BEGINS. Each datum BY PROGRAM (the guide's laid-datum.mjs) off the statement by which the dump's own 'gosem.cut.vars' lays the variable. In a bare row this is a premise. The card (YtlaobafbdllajaaDoorCards.lean) ties it to the program's text. -/
def laid_unicode_utf8_acceptRanges {H : Type} : DataW H := .agg [.agg [.lit (.int .u8 128), .lit (.int .u8 191)], .agg [.lit (.int .u8 160), .lit (.int .u8 191)], .agg [.lit (.int .u8 128), .lit (.int .u8 159)], .agg [.lit (.int .u8 144), .lit (.int .u8 191)], .agg [.lit (.int .u8 128), .lit (.int .u8 143)], .agg [.lit (.int .u8 0), .lit (.int .u8 0)], .agg [.lit (.int .u8 0), .lit (.int .u8 0)], .agg [.lit (.int .u8 0), .lit (.int .u8 0)], .agg [.lit (.int .u8 0), .lit (.int .u8 0)], .agg [.lit (.int .u8 0), .lit (.int .u8 0)], .agg [.lit (.int .u8 0), .lit (.int .u8 0)], .agg [.lit (.int .u8 0), .lit (.int .u8 0)], .agg [.lit (.int .u8 0), .lit (.int .u8 0)], .agg [.lit (.int .u8 0), .lit (.int .u8 0)], .agg [.lit (.int .u8 0), .lit (.int .u8 0)], .agg [.lit (.int .u8 0), .lit (.int .u8 0)]]
/-- One of Go's own tables, pinned by name: the form's constant. -/
def laid_unicode_utf8_first : DataW Unit := Go.Pinned.utf8First

/-- 'mortiselaw22.SfntReads': WHATEVER THE INPUT: true; the input reads as it did. -/
def sfntReadsSpec : ChangeSpec := { name := "sfntReads", fn := fun _ => fun
  | [d] => { results := [.lit (.bool true)], args := [d] }
  | _ => none }
def sfntReadsRow : OpenClaim := { program := "ytlaobafbdllajaadoor", sum := "92cbd8e5de2aef6818171c5be4e59f15286dfa2b8b2b12c729da0afc678ca92d", func := "mortise/mortiselaw22.SfntReads", spec := "sfntReads", inPlace := ["internal/abi.NoEscape", "internal/bytealg.MakeNoZero", "slices.overlaps[mortise/regions.item[string]]", "internal/bytealg.IndexByteString", "internal/bytealg.IndexString"], unfollowed := true, recurses := true, named := ["unicode/utf8.first", "unicode/utf8.acceptRanges", "internal/bytealg.MaxLen"], apart := false, laid := [("unicode/utf8.acceptRanges", laid_unicode_utf8_acceptRanges), ("unicode/utf8.first", laid_unicode_utf8_first)] }
def SfntReadsSaid : Prop := sfntReadsRow.holds Tryd.pinned (OpenSpec.ofChange sfntReadsSpec)

/-- ITS FALSE NEIGHBOUR: 'it returns false'. Refute it at one input. -/
def sfntReadsWrong : ChangeSpec := { name := "sfntReads", fn := fun _ => fun
  | [d] => { results := [.lit (.bool false)], args := [d] }
  | _ => none }
def SfntReadsWrongFalsely : Prop := sfntReadsRow.holds Tryd.pinned (OpenSpec.ofChange sfntReadsWrong)

/-- 'mortiselaw22.SfntWrites': WHATEVER THE INPUT: true; the input reads as it did. -/
def sfntWritesSpec : ChangeSpec := { name := "sfntWrites", fn := fun _ => fun
  | [d1, d2] => { results := [.lit (.bool true)], args := [d1, d2] }
  | _ => none }
def sfntWritesRow : OpenClaim := { program := "ytlaobafbdllajaadoor", sum := "92cbd8e5de2aef6818171c5be4e59f15286dfa2b8b2b12c729da0afc678ca92d", func := "mortise/mortiselaw22.SfntWrites", spec := "sfntWrites", inPlace := ["internal/abi.NoEscape", "internal/bytealg.MakeNoZero", "slices.overlaps[mortise/regions.item[string]]", "internal/bytealg.IndexByteString", "internal/bytealg.IndexString"], unfollowed := true, recurses := true, named := ["unicode/utf8.first", "unicode/utf8.acceptRanges", "internal/bytealg.MaxLen"], apart := false, laid := [("unicode/utf8.acceptRanges", laid_unicode_utf8_acceptRanges), ("unicode/utf8.first", laid_unicode_utf8_first)] }
def SfntWritesSaid : Prop := sfntWritesRow.holds Tryd.pinned (OpenSpec.ofChange sfntWritesSpec)

/-- ITS FALSE NEIGHBOUR: 'it returns false'. Refute it at one input. -/
def sfntWritesWrong : ChangeSpec := { name := "sfntWrites", fn := fun _ => fun
  | [d1, d2] => { results := [.lit (.bool false)], args := [d1, d2] }
  | _ => none }
def SfntWritesWrongFalsely : Prop := sfntWritesRow.holds Tryd.pinned (OpenSpec.ofChange sfntWritesWrong)

/-- 'mortiselaw22.SfntBack': WHATEVER THE INPUT: true; the input reads as it did. -/
def sfntBackSpec : ChangeSpec := { name := "sfntBack", fn := fun _ => fun
  | [d1, d2] => { results := [.lit (.bool true)], args := [d1, d2] }
  | _ => none }
def sfntBackRow : OpenClaim := { program := "ytlaobafbdllajaadoor", sum := "92cbd8e5de2aef6818171c5be4e59f15286dfa2b8b2b12c729da0afc678ca92d", func := "mortise/mortiselaw22.SfntBack", spec := "sfntBack", inPlace := ["internal/abi.NoEscape", "internal/bytealg.MakeNoZero", "slices.overlaps[mortise/regions.item[string]]", "internal/bytealg.IndexByteString", "internal/bytealg.IndexString"], unfollowed := true, recurses := true, named := ["unicode/utf8.first", "unicode/utf8.acceptRanges", "internal/bytealg.MaxLen"], apart := false, laid := [("unicode/utf8.acceptRanges", laid_unicode_utf8_acceptRanges), ("unicode/utf8.first", laid_unicode_utf8_first)] }
def SfntBackSaid : Prop := sfntBackRow.holds Tryd.pinned (OpenSpec.ofChange sfntBackSpec)

/-- ITS FALSE NEIGHBOUR: 'it returns false'. Refute it at one input. -/
def sfntBackWrong : ChangeSpec := { name := "sfntBack", fn := fun _ => fun
  | [d1, d2] => { results := [.lit (.bool false)], args := [d1, d2] }
  | _ => none }
def SfntBackWrongFalsely : Prop := sfntBackRow.holds Tryd.pinned (OpenSpec.ofChange sfntBackWrong)

/-- 'mortiselaw22.SfntSums': WHATEVER THE INPUT: true; the input reads as it did. -/
def sfntSumsSpec : ChangeSpec := { name := "sfntSums", fn := fun _ => fun
  | [d1, d2] => { results := [.lit (.bool true)], args := [d1, d2] }
  | _ => none }
def sfntSumsRow : OpenClaim := { program := "ytlaobafbdllajaadoor", sum := "92cbd8e5de2aef6818171c5be4e59f15286dfa2b8b2b12c729da0afc678ca92d", func := "mortise/mortiselaw22.SfntSums", spec := "sfntSums", inPlace := ["internal/abi.NoEscape", "internal/bytealg.MakeNoZero", "slices.overlaps[mortise/regions.item[string]]", "internal/bytealg.IndexByteString", "internal/bytealg.IndexString"], unfollowed := true, recurses := true, named := ["unicode/utf8.first", "unicode/utf8.acceptRanges", "internal/bytealg.MaxLen"], apart := false, laid := [("unicode/utf8.acceptRanges", laid_unicode_utf8_acceptRanges), ("unicode/utf8.first", laid_unicode_utf8_first)] }
def SfntSumsSaid : Prop := sfntSumsRow.holds Tryd.pinned (OpenSpec.ofChange sfntSumsSpec)

/-- ITS FALSE NEIGHBOUR: 'it returns false'. Refute it at one input. -/
def sfntSumsWrong : ChangeSpec := { name := "sfntSums", fn := fun _ => fun
  | [d1, d2] => { results := [.lit (.bool false)], args := [d1, d2] }
  | _ => none }
def SfntSumsWrongFalsely : Prop := sfntSumsRow.holds Tryd.pinned (OpenSpec.ofChange sfntSumsWrong)

/-- 'mortiselaw22.SfntTurned': WHATEVER THE INPUT: true; the input reads as it did. -/
def sfntTurnedSpec : ChangeSpec := { name := "sfntTurned", fn := fun _ => fun
  | [d] => { results := [.lit (.bool true)], args := [d] }
  | _ => none }
def sfntTurnedRow : OpenClaim := { program := "ytlaobafbdllajaadoor", sum := "92cbd8e5de2aef6818171c5be4e59f15286dfa2b8b2b12c729da0afc678ca92d", func := "mortise/mortiselaw22.SfntTurned", spec := "sfntTurned", inPlace := ["internal/abi.NoEscape", "internal/bytealg.MakeNoZero", "slices.overlaps[mortise/regions.item[string]]", "internal/bytealg.IndexByteString", "internal/bytealg.IndexString"], unfollowed := true, recurses := true, named := ["unicode/utf8.first", "unicode/utf8.acceptRanges", "internal/bytealg.MaxLen"], apart := false, laid := [("unicode/utf8.acceptRanges", laid_unicode_utf8_acceptRanges), ("unicode/utf8.first", laid_unicode_utf8_first)] }
def SfntTurnedSaid : Prop := sfntTurnedRow.holds Tryd.pinned (OpenSpec.ofChange sfntTurnedSpec)

/-- ITS FALSE NEIGHBOUR: 'it returns false'. Refute it at one input. -/
def sfntTurnedWrong : ChangeSpec := { name := "sfntTurned", fn := fun _ => fun
  | [d] => { results := [.lit (.bool false)], args := [d] }
  | _ => none }
def SfntTurnedWrongFalsely : Prop := sfntTurnedRow.holds Tryd.pinned (OpenSpec.ofChange sfntTurnedWrong)

/-- 'mortiselaw22.SfntApart': WHATEVER THE INPUT: true; the input reads as it did. -/
def sfntApartSpec : ChangeSpec := { name := "sfntApart", fn := fun _ => fun
  | [d1, d2, d3] => { results := [.lit (.bool true)], args := [d1, d2, d3] }
  | _ => none }
def sfntApartRow : OpenClaim := { program := "ytlaobafbdllajaadoor", sum := "92cbd8e5de2aef6818171c5be4e59f15286dfa2b8b2b12c729da0afc678ca92d", func := "mortise/mortiselaw22.SfntApart", spec := "sfntApart", inPlace := ["internal/abi.NoEscape", "internal/bytealg.MakeNoZero", "slices.overlaps[mortise/regions.item[string]]", "internal/bytealg.IndexByteString", "internal/bytealg.IndexString"], unfollowed := true, recurses := true, named := ["unicode/utf8.first", "unicode/utf8.acceptRanges", "internal/bytealg.MaxLen"], apart := false, laid := [("unicode/utf8.acceptRanges", laid_unicode_utf8_acceptRanges), ("unicode/utf8.first", laid_unicode_utf8_first)] }
def SfntApartSaid : Prop := sfntApartRow.holds Tryd.pinned (OpenSpec.ofChange sfntApartSpec)

/-- ITS FALSE NEIGHBOUR: 'it returns false'. Refute it at one input. -/
def sfntApartWrong : ChangeSpec := { name := "sfntApart", fn := fun _ => fun
  | [d1, d2, d3] => { results := [.lit (.bool false)], args := [d1, d2, d3] }
  | _ => none }
def SfntApartWrongFalsely : Prop := sfntApartRow.holds Tryd.pinned (OpenSpec.ofChange sfntApartWrong)

/- THE SECOND FORM. 'bulk': how many values and letters a reading holds, each counted each time it is reached (what is shared counts as often as it is met; a slice's spare places count too). A statement '..UptoSaid' is the law's where the arguments, and the package variables that the reading takes, are together of bulk at most 1048576: NARROWER than '..Said'. Prove '..Said' where nothing that the law and all that it calls make is longer than what came in: it says more and counts as full. Else prove '..UptoSaid'. A law counts once. -/
mutual
def uptoBulk {H : Type} : DataW H → Nat
  | .lit (.string bytes) => bytes.length + 1
  | .lit _ => 1
  | .nil => 1
  | .ptr d => uptoBulk d + 1
  | .slice elems spare => uptoBulkAll elems + uptoBulkAll spare + 1
  | .agg parts => uptoBulkAll parts + 1
  | .iface _ d => uptoBulk d + 1
  | .map entries => uptoBulkEntries entries + 1
  | .held _ => 1
def uptoBulkAll {H : Type} : List (DataW H) → Nat
  | [] => 0
  | d :: r => uptoBulk d + uptoBulkAll r
def uptoBulkEntries {H : Type} : List (Lit × DataW H) → Nat
  | [] => 0
  | x :: r => uptoBulkEntry x + uptoBulkEntries r
def uptoBulkEntry {H : Type} : Lit × DataW H → Nat
  | (.string bytes, d) => bytes.length + uptoBulk d + 1
  | (_, d) => uptoBulk d + 1
 end
def uptoSmall : (H : Type) → List (DataW H) → Bool := fun _ ds => decide (uptoBulkAll ds ≤ 1048576)
def OpenSpec.upto (s : _root_.Go.ChangeSpec) : _root_.Go.OpenSpec := { _root_.Go.OpenSpec.ofChange s with cond := some uptoSmall }

/-- 'mortiselaw22.SfntReads', WHERE WHAT IT READS IS OF BULK AT MOST 1048576: true; the input reads as it did. -/
def sfntReadsUptoRow : OpenClaim := { program := "ytlaobafbdllajaadoor", sum := "92cbd8e5de2aef6818171c5be4e59f15286dfa2b8b2b12c729da0afc678ca92d", func := "mortise/mortiselaw22.SfntReads", spec := "sfntReads", inPlace := ["internal/abi.NoEscape", "internal/bytealg.MakeNoZero", "slices.overlaps[mortise/regions.item[string]]", "internal/bytealg.IndexByteString", "internal/bytealg.IndexString"], unfollowed := true, recurses := true, named := ["unicode/utf8.first", "unicode/utf8.acceptRanges", "internal/bytealg.MaxLen"], apart := false, laid := [("unicode/utf8.acceptRanges", laid_unicode_utf8_acceptRanges), ("unicode/utf8.first", laid_unicode_utf8_first)], narrowed := true }
def SfntReadsUptoSaid : Prop := sfntReadsUptoRow.holds Tryd.pinned (OpenSpec.upto sfntReadsSpec)

/-- 'mortiselaw22.SfntWrites', WHERE WHAT IT READS IS OF BULK AT MOST 1048576: true; the input reads as it did. -/
def sfntWritesUptoRow : OpenClaim := { program := "ytlaobafbdllajaadoor", sum := "92cbd8e5de2aef6818171c5be4e59f15286dfa2b8b2b12c729da0afc678ca92d", func := "mortise/mortiselaw22.SfntWrites", spec := "sfntWrites", inPlace := ["internal/abi.NoEscape", "internal/bytealg.MakeNoZero", "slices.overlaps[mortise/regions.item[string]]", "internal/bytealg.IndexByteString", "internal/bytealg.IndexString"], unfollowed := true, recurses := true, named := ["unicode/utf8.first", "unicode/utf8.acceptRanges", "internal/bytealg.MaxLen"], apart := false, laid := [("unicode/utf8.acceptRanges", laid_unicode_utf8_acceptRanges), ("unicode/utf8.first", laid_unicode_utf8_first)], narrowed := true }
def SfntWritesUptoSaid : Prop := sfntWritesUptoRow.holds Tryd.pinned (OpenSpec.upto sfntWritesSpec)

/-- 'mortiselaw22.SfntBack', WHERE WHAT IT READS IS OF BULK AT MOST 1048576: true; the input reads as it did. -/
def sfntBackUptoRow : OpenClaim := { program := "ytlaobafbdllajaadoor", sum := "92cbd8e5de2aef6818171c5be4e59f15286dfa2b8b2b12c729da0afc678ca92d", func := "mortise/mortiselaw22.SfntBack", spec := "sfntBack", inPlace := ["internal/abi.NoEscape", "internal/bytealg.MakeNoZero", "slices.overlaps[mortise/regions.item[string]]", "internal/bytealg.IndexByteString", "internal/bytealg.IndexString"], unfollowed := true, recurses := true, named := ["unicode/utf8.first", "unicode/utf8.acceptRanges", "internal/bytealg.MaxLen"], apart := false, laid := [("unicode/utf8.acceptRanges", laid_unicode_utf8_acceptRanges), ("unicode/utf8.first", laid_unicode_utf8_first)], narrowed := true }
def SfntBackUptoSaid : Prop := sfntBackUptoRow.holds Tryd.pinned (OpenSpec.upto sfntBackSpec)

/-- 'mortiselaw22.SfntSums', WHERE WHAT IT READS IS OF BULK AT MOST 1048576: true; the input reads as it did. -/
def sfntSumsUptoRow : OpenClaim := { program := "ytlaobafbdllajaadoor", sum := "92cbd8e5de2aef6818171c5be4e59f15286dfa2b8b2b12c729da0afc678ca92d", func := "mortise/mortiselaw22.SfntSums", spec := "sfntSums", inPlace := ["internal/abi.NoEscape", "internal/bytealg.MakeNoZero", "slices.overlaps[mortise/regions.item[string]]", "internal/bytealg.IndexByteString", "internal/bytealg.IndexString"], unfollowed := true, recurses := true, named := ["unicode/utf8.first", "unicode/utf8.acceptRanges", "internal/bytealg.MaxLen"], apart := false, laid := [("unicode/utf8.acceptRanges", laid_unicode_utf8_acceptRanges), ("unicode/utf8.first", laid_unicode_utf8_first)], narrowed := true }
def SfntSumsUptoSaid : Prop := sfntSumsUptoRow.holds Tryd.pinned (OpenSpec.upto sfntSumsSpec)

/-- 'mortiselaw22.SfntTurned', WHERE WHAT IT READS IS OF BULK AT MOST 1048576: true; the input reads as it did. -/
def sfntTurnedUptoRow : OpenClaim := { program := "ytlaobafbdllajaadoor", sum := "92cbd8e5de2aef6818171c5be4e59f15286dfa2b8b2b12c729da0afc678ca92d", func := "mortise/mortiselaw22.SfntTurned", spec := "sfntTurned", inPlace := ["internal/abi.NoEscape", "internal/bytealg.MakeNoZero", "slices.overlaps[mortise/regions.item[string]]", "internal/bytealg.IndexByteString", "internal/bytealg.IndexString"], unfollowed := true, recurses := true, named := ["unicode/utf8.first", "unicode/utf8.acceptRanges", "internal/bytealg.MaxLen"], apart := false, laid := [("unicode/utf8.acceptRanges", laid_unicode_utf8_acceptRanges), ("unicode/utf8.first", laid_unicode_utf8_first)], narrowed := true }
def SfntTurnedUptoSaid : Prop := sfntTurnedUptoRow.holds Tryd.pinned (OpenSpec.upto sfntTurnedSpec)

/-- 'mortiselaw22.SfntApart', WHERE WHAT IT READS IS OF BULK AT MOST 1048576: true; the input reads as it did. -/
def sfntApartUptoRow : OpenClaim := { program := "ytlaobafbdllajaadoor", sum := "92cbd8e5de2aef6818171c5be4e59f15286dfa2b8b2b12c729da0afc678ca92d", func := "mortise/mortiselaw22.SfntApart", spec := "sfntApart", inPlace := ["internal/abi.NoEscape", "internal/bytealg.MakeNoZero", "slices.overlaps[mortise/regions.item[string]]", "internal/bytealg.IndexByteString", "internal/bytealg.IndexString"], unfollowed := true, recurses := true, named := ["unicode/utf8.first", "unicode/utf8.acceptRanges", "internal/bytealg.MaxLen"], apart := false, laid := [("unicode/utf8.acceptRanges", laid_unicode_utf8_acceptRanges), ("unicode/utf8.first", laid_unicode_utf8_first)], narrowed := true }
def SfntApartUptoSaid : Prop := sfntApartUptoRow.holds Tryd.pinned (OpenSpec.upto sfntApartSpec)

end Rows
end Go.Proofs.YtlaobafbdllajaaDoor
