/-
  NARROWER THAN 'FOR EVERY INPUT', by the rows' own cells (each row's printed sentence says how): PngSplits: laid · PngJoins: laid · PngDecodes: laid · PngEncodes: laid · PngBack: laid · PngTurned: laid.
  DERIVED. THE GIVEN ROWS OF THIS SEAT. 6 by the template 'for every input the law returns true; each argument reads behind the call as it read before'; 0 by the template 'total and deterministic' (their statements: YtomkjiipmhglcaaGreatDoorTotals.lean).
  GIVEN WITH THE SEED: the statements are not yours to turn. If you find one false, say at which input.
  Laid BY PROGRAM, IN A SANDBOX (cutbox-rows.mjs): the forced cells as the released guide's own fill.sh prints them over the translation cb7855cd4c32b560… (all of the seat's roots in one cut). By AI agents, Wed Nov 11 2026. No macro, syntax, notation, axiom, sorry.
-/
import Derived.Test.YtomkjiipmhglcaaGreatDoorChecked
import GoSem.Claim
import GoSem.ClaimJoined
import GoSem.ClaimMapViews
import Derived.JoinedTies
import Derived.KernelRfl
namespace Go.Proofs.YtomkjiipmhglcaaGreatDoor
/- THE CELL 'sum', in the pinned program and in every row, IS THE sha256 OF THE DUMP (.gsa) THAT YtomkjiipmhglcaaGreatDoorProg.lean LOADS. Nothing in Lean hashes anything: it is a label: what it is worth is what the hold of that sum in a sandbox is worth. -/
noncomputable def Tryz.pinned : Pinned := { name := "ytomkjiipmhglcaagreatdoor", sum := "cb7855cd4c32b560c5c56a1ca2e1a1345365e2564f2862b7a2b8da9950cdcd86", checked := Tryz.checked }
namespace Rows
def none {H : Type} : Left H := { results := [], args := [] }

/- WHAT THE LISTED PACKAGE-LEVEL VARIABLES READ AS WHEN THE CALL BEGINS. Each datum BY PROGRAM (the guide's laid-datum.mjs) off the statement by which the dump's own 'gosem.cut.vars' lays the variable. In a bare row this is a premise. The card (YtomkjiipmhglcaaGreatDoorCards.lean) ties it to the program's text. -/
def laid_mortise_sums_half {H : Type} : DataW H := .agg [.lit (.int .u32 0), .lit (.int .u32 498536548), .lit (.int .u32 997073096), .lit (.int .u32 651767980), .lit (.int .u32 1994146192), .lit (.int .u32 1802195444), .lit (.int .u32 1303535960), .lit (.int .u32 1342533948), .lit (.int .u32 3988292384), .lit (.int .u32 4027552580), .lit (.int .u32 3604390888), .lit (.int .u32 3412177804), .lit (.int .u32 2607071920), .lit (.int .u32 2262029012), .lit (.int .u32 2685067896), .lit (.int .u32 3183342108)]
def laid_mortise_deflate_order {H : Type} : DataW H := .agg [.lit (.int .i64 16), .lit (.int .i64 17), .lit (.int .i64 18), .lit (.int .i64 0), .lit (.int .i64 8), .lit (.int .i64 7), .lit (.int .i64 9), .lit (.int .i64 6), .lit (.int .i64 10), .lit (.int .i64 5), .lit (.int .i64 11), .lit (.int .i64 4), .lit (.int .i64 12), .lit (.int .i64 3), .lit (.int .i64 13), .lit (.int .i64 2), .lit (.int .i64 14), .lit (.int .i64 1), .lit (.int .i64 15)]
def laid_mortise_inflate_lengths {H : Type} : DataW H := .agg [.agg [.lit (.int .i64 3), .lit (.int .i64 0)], .agg [.lit (.int .i64 4), .lit (.int .i64 0)], .agg [.lit (.int .i64 5), .lit (.int .i64 0)], .agg [.lit (.int .i64 6), .lit (.int .i64 0)], .agg [.lit (.int .i64 7), .lit (.int .i64 0)], .agg [.lit (.int .i64 8), .lit (.int .i64 0)], .agg [.lit (.int .i64 9), .lit (.int .i64 0)], .agg [.lit (.int .i64 10), .lit (.int .i64 0)], .agg [.lit (.int .i64 11), .lit (.int .i64 1)], .agg [.lit (.int .i64 13), .lit (.int .i64 1)], .agg [.lit (.int .i64 15), .lit (.int .i64 1)], .agg [.lit (.int .i64 17), .lit (.int .i64 1)], .agg [.lit (.int .i64 19), .lit (.int .i64 2)], .agg [.lit (.int .i64 23), .lit (.int .i64 2)], .agg [.lit (.int .i64 27), .lit (.int .i64 2)], .agg [.lit (.int .i64 31), .lit (.int .i64 2)], .agg [.lit (.int .i64 35), .lit (.int .i64 3)], .agg [.lit (.int .i64 43), .lit (.int .i64 3)], .agg [.lit (.int .i64 51), .lit (.int .i64 3)], .agg [.lit (.int .i64 59), .lit (.int .i64 3)], .agg [.lit (.int .i64 67), .lit (.int .i64 4)], .agg [.lit (.int .i64 83), .lit (.int .i64 4)], .agg [.lit (.int .i64 99), .lit (.int .i64 4)], .agg [.lit (.int .i64 115), .lit (.int .i64 4)], .agg [.lit (.int .i64 131), .lit (.int .i64 5)], .agg [.lit (.int .i64 163), .lit (.int .i64 5)], .agg [.lit (.int .i64 195), .lit (.int .i64 5)], .agg [.lit (.int .i64 227), .lit (.int .i64 5)], .agg [.lit (.int .i64 258), .lit (.int .i64 0)]]
def laid_mortise_inflate_distances {H : Type} : DataW H := .agg [.agg [.lit (.int .i64 1), .lit (.int .i64 0)], .agg [.lit (.int .i64 2), .lit (.int .i64 0)], .agg [.lit (.int .i64 3), .lit (.int .i64 0)], .agg [.lit (.int .i64 4), .lit (.int .i64 0)], .agg [.lit (.int .i64 5), .lit (.int .i64 1)], .agg [.lit (.int .i64 7), .lit (.int .i64 1)], .agg [.lit (.int .i64 9), .lit (.int .i64 2)], .agg [.lit (.int .i64 13), .lit (.int .i64 2)], .agg [.lit (.int .i64 17), .lit (.int .i64 3)], .agg [.lit (.int .i64 25), .lit (.int .i64 3)], .agg [.lit (.int .i64 33), .lit (.int .i64 4)], .agg [.lit (.int .i64 49), .lit (.int .i64 4)], .agg [.lit (.int .i64 65), .lit (.int .i64 5)], .agg [.lit (.int .i64 97), .lit (.int .i64 5)], .agg [.lit (.int .i64 129), .lit (.int .i64 6)], .agg [.lit (.int .i64 193), .lit (.int .i64 6)], .agg [.lit (.int .i64 257), .lit (.int .i64 7)], .agg [.lit (.int .i64 385), .lit (.int .i64 7)], .agg [.lit (.int .i64 513), .lit (.int .i64 8)], .agg [.lit (.int .i64 769), .lit (.int .i64 8)], .agg [.lit (.int .i64 1025), .lit (.int .i64 9)], .agg [.lit (.int .i64 1537), .lit (.int .i64 9)], .agg [.lit (.int .i64 2049), .lit (.int .i64 10)], .agg [.lit (.int .i64 3073), .lit (.int .i64 10)], .agg [.lit (.int .i64 4097), .lit (.int .i64 11)], .agg [.lit (.int .i64 6145), .lit (.int .i64 11)], .agg [.lit (.int .i64 8193), .lit (.int .i64 12)], .agg [.lit (.int .i64 12289), .lit (.int .i64 12)], .agg [.lit (.int .i64 16385), .lit (.int .i64 13)], .agg [.lit (.int .i64 24577), .lit (.int .i64 13)]]
def laid_mortise_inflate_order {H : Type} : DataW H := .agg [.lit (.int .i64 16), .lit (.int .i64 17), .lit (.int .i64 18), .lit (.int .i64 0), .lit (.int .i64 8), .lit (.int .i64 7), .lit (.int .i64 9), .lit (.int .i64 6), .lit (.int .i64 10), .lit (.int .i64 5), .lit (.int .i64 11), .lit (.int .i64 4), .lit (.int .i64 12), .lit (.int .i64 3), .lit (.int .i64 13), .lit (.int .i64 2), .lit (.int .i64 14), .lit (.int .i64 1), .lit (.int .i64 15)]
def laid_mortise_png_colors {H : Type} : DataW H := .agg [.agg [.lit (.int .u8 0), .lit (.int .i64 1)], .agg [.lit (.int .u8 2), .lit (.int .i64 3)], .agg [.lit (.int .u8 6), .lit (.int .i64 4)]]

/-- 'mortiselaw17.PngSplits': WHATEVER THE INPUT: true; the input reads as it did. -/
def pngSplitsSpec : ChangeSpec := { name := "pngSplits", fn := fun _ => fun
  | [d] => { results := [.lit (.bool true)], args := [d] }
  | _ => none }
def pngSplitsRow : OpenClaim := { program := "ytomkjiipmhglcaagreatdoor", sum := "cb7855cd4c32b560c5c56a1ca2e1a1345365e2564f2862b7a2b8da9950cdcd86", func := "mortise/mortiselaw17.PngSplits", spec := "pngSplits", inPlace := ["internal/abi.NoEscape"], unfollowed := true, recurses := true, named := ["mortise/png.colors", "mortise/deflate.order", "mortise/sums.half", "mortise/inflate.lengths", "mortise/inflate.distances", "mortise/inflate.order"], plainKeys := false, apart := false, laid := [("mortise/sums.half", laid_mortise_sums_half), ("mortise/deflate.order", laid_mortise_deflate_order), ("mortise/inflate.lengths", laid_mortise_inflate_lengths), ("mortise/inflate.distances", laid_mortise_inflate_distances), ("mortise/inflate.order", laid_mortise_inflate_order), ("mortise/png.colors", laid_mortise_png_colors)] }
def PngSplitsSaid : Prop := pngSplitsRow.holds Tryz.pinned (OpenSpec.ofChange pngSplitsSpec)

/-- ITS FALSE NEIGHBOUR: 'it returns false'. Refute it at one input. -/
def pngSplitsWrong : ChangeSpec := { name := "pngSplits", fn := fun _ => fun
  | [d] => { results := [.lit (.bool false)], args := [d] }
  | _ => none }
def PngSplitsWrongFalsely : Prop := pngSplitsRow.holds Tryz.pinned (OpenSpec.ofChange pngSplitsWrong)

/-- 'mortiselaw17.PngJoins': WHATEVER THE INPUT: true; the input reads as it did. -/
def pngJoinsSpec : ChangeSpec := { name := "pngJoins", fn := fun _ => fun
  | [d] => { results := [.lit (.bool true)], args := [d] }
  | _ => none }
def pngJoinsRow : OpenClaim := { program := "ytomkjiipmhglcaagreatdoor", sum := "cb7855cd4c32b560c5c56a1ca2e1a1345365e2564f2862b7a2b8da9950cdcd86", func := "mortise/mortiselaw17.PngJoins", spec := "pngJoins", inPlace := ["internal/abi.NoEscape"], unfollowed := true, recurses := true, named := ["mortise/png.colors", "mortise/deflate.order", "mortise/sums.half", "mortise/inflate.lengths", "mortise/inflate.distances", "mortise/inflate.order"], plainKeys := false, apart := false, laid := [("mortise/sums.half", laid_mortise_sums_half), ("mortise/deflate.order", laid_mortise_deflate_order), ("mortise/inflate.lengths", laid_mortise_inflate_lengths), ("mortise/inflate.distances", laid_mortise_inflate_distances), ("mortise/inflate.order", laid_mortise_inflate_order), ("mortise/png.colors", laid_mortise_png_colors)] }
def PngJoinsSaid : Prop := pngJoinsRow.holds Tryz.pinned (OpenSpec.ofChange pngJoinsSpec)

/-- ITS FALSE NEIGHBOUR: 'it returns false'. Refute it at one input. -/
def pngJoinsWrong : ChangeSpec := { name := "pngJoins", fn := fun _ => fun
  | [d] => { results := [.lit (.bool false)], args := [d] }
  | _ => none }
def PngJoinsWrongFalsely : Prop := pngJoinsRow.holds Tryz.pinned (OpenSpec.ofChange pngJoinsWrong)

/-- 'mortiselaw17.PngDecodes': WHATEVER THE INPUT: true; the input reads as it did. -/
def pngDecodesSpec : ChangeSpec := { name := "pngDecodes", fn := fun _ => fun
  | [d] => { results := [.lit (.bool true)], args := [d] }
  | _ => none }
def pngDecodesRow : OpenClaim := { program := "ytomkjiipmhglcaagreatdoor", sum := "cb7855cd4c32b560c5c56a1ca2e1a1345365e2564f2862b7a2b8da9950cdcd86", func := "mortise/mortiselaw17.PngDecodes", spec := "pngDecodes", inPlace := ["internal/abi.NoEscape"], unfollowed := true, recurses := true, named := ["mortise/png.colors", "mortise/deflate.order", "mortise/sums.half", "mortise/inflate.lengths", "mortise/inflate.distances", "mortise/inflate.order"], plainKeys := false, apart := false, laid := [("mortise/sums.half", laid_mortise_sums_half), ("mortise/deflate.order", laid_mortise_deflate_order), ("mortise/inflate.lengths", laid_mortise_inflate_lengths), ("mortise/inflate.distances", laid_mortise_inflate_distances), ("mortise/inflate.order", laid_mortise_inflate_order), ("mortise/png.colors", laid_mortise_png_colors)] }
def PngDecodesSaid : Prop := pngDecodesRow.holds Tryz.pinned (OpenSpec.ofChange pngDecodesSpec)

/-- ITS FALSE NEIGHBOUR: 'it returns false'. Refute it at one input. -/
def pngDecodesWrong : ChangeSpec := { name := "pngDecodes", fn := fun _ => fun
  | [d] => { results := [.lit (.bool false)], args := [d] }
  | _ => none }
def PngDecodesWrongFalsely : Prop := pngDecodesRow.holds Tryz.pinned (OpenSpec.ofChange pngDecodesWrong)

/-- 'mortiselaw17.PngEncodes': WHATEVER THE INPUT: true; the input reads as it did. -/
def pngEncodesSpec : ChangeSpec := { name := "pngEncodes", fn := fun _ => fun
  | [d] => { results := [.lit (.bool true)], args := [d] }
  | _ => none }
def pngEncodesRow : OpenClaim := { program := "ytomkjiipmhglcaagreatdoor", sum := "cb7855cd4c32b560c5c56a1ca2e1a1345365e2564f2862b7a2b8da9950cdcd86", func := "mortise/mortiselaw17.PngEncodes", spec := "pngEncodes", inPlace := ["internal/abi.NoEscape"], unfollowed := true, recurses := true, named := ["mortise/png.colors", "mortise/deflate.order", "mortise/sums.half", "mortise/inflate.lengths", "mortise/inflate.distances", "mortise/inflate.order"], plainKeys := false, apart := false, laid := [("mortise/sums.half", laid_mortise_sums_half), ("mortise/deflate.order", laid_mortise_deflate_order), ("mortise/inflate.lengths", laid_mortise_inflate_lengths), ("mortise/inflate.distances", laid_mortise_inflate_distances), ("mortise/inflate.order", laid_mortise_inflate_order), ("mortise/png.colors", laid_mortise_png_colors)] }
def PngEncodesSaid : Prop := pngEncodesRow.holds Tryz.pinned (OpenSpec.ofChange pngEncodesSpec)

/-- ITS FALSE NEIGHBOUR: 'it returns false'. Refute it at one input. -/
def pngEncodesWrong : ChangeSpec := { name := "pngEncodes", fn := fun _ => fun
  | [d] => { results := [.lit (.bool false)], args := [d] }
  | _ => none }
def PngEncodesWrongFalsely : Prop := pngEncodesRow.holds Tryz.pinned (OpenSpec.ofChange pngEncodesWrong)

/-- 'mortiselaw17.PngBack': WHATEVER THE INPUT: true; the input reads as it did. -/
def pngBackSpec : ChangeSpec := { name := "pngBack", fn := fun _ => fun
  | [d1, d2] => { results := [.lit (.bool true)], args := [d1, d2] }
  | _ => none }
def pngBackRow : OpenClaim := { program := "ytomkjiipmhglcaagreatdoor", sum := "cb7855cd4c32b560c5c56a1ca2e1a1345365e2564f2862b7a2b8da9950cdcd86", func := "mortise/mortiselaw17.PngBack", spec := "pngBack", inPlace := ["internal/abi.NoEscape"], unfollowed := true, recurses := true, named := ["mortise/png.colors", "mortise/deflate.order", "mortise/sums.half", "mortise/inflate.lengths", "mortise/inflate.distances", "mortise/inflate.order"], plainKeys := false, apart := false, laid := [("mortise/sums.half", laid_mortise_sums_half), ("mortise/deflate.order", laid_mortise_deflate_order), ("mortise/inflate.lengths", laid_mortise_inflate_lengths), ("mortise/inflate.distances", laid_mortise_inflate_distances), ("mortise/inflate.order", laid_mortise_inflate_order), ("mortise/png.colors", laid_mortise_png_colors)] }
def PngBackSaid : Prop := pngBackRow.holds Tryz.pinned (OpenSpec.ofChange pngBackSpec)

/-- ITS FALSE NEIGHBOUR: 'it returns false'. Refute it at one input. -/
def pngBackWrong : ChangeSpec := { name := "pngBack", fn := fun _ => fun
  | [d1, d2] => { results := [.lit (.bool false)], args := [d1, d2] }
  | _ => none }
def PngBackWrongFalsely : Prop := pngBackRow.holds Tryz.pinned (OpenSpec.ofChange pngBackWrong)

/-- 'mortiselaw17.PngTurned': WHATEVER THE INPUT: true; the input reads as it did. -/
def pngTurnedSpec : ChangeSpec := { name := "pngTurned", fn := fun _ => fun
  | [d1, d2, d3] => { results := [.lit (.bool true)], args := [d1, d2, d3] }
  | _ => none }
def pngTurnedRow : OpenClaim := { program := "ytomkjiipmhglcaagreatdoor", sum := "cb7855cd4c32b560c5c56a1ca2e1a1345365e2564f2862b7a2b8da9950cdcd86", func := "mortise/mortiselaw17.PngTurned", spec := "pngTurned", inPlace := ["internal/abi.NoEscape"], unfollowed := true, recurses := true, named := ["mortise/png.colors", "mortise/deflate.order", "mortise/sums.half", "mortise/inflate.lengths", "mortise/inflate.distances", "mortise/inflate.order"], plainKeys := false, apart := false, laid := [("mortise/sums.half", laid_mortise_sums_half), ("mortise/deflate.order", laid_mortise_deflate_order), ("mortise/inflate.lengths", laid_mortise_inflate_lengths), ("mortise/inflate.distances", laid_mortise_inflate_distances), ("mortise/inflate.order", laid_mortise_inflate_order), ("mortise/png.colors", laid_mortise_png_colors)] }
def PngTurnedSaid : Prop := pngTurnedRow.holds Tryz.pinned (OpenSpec.ofChange pngTurnedSpec)

/-- ITS FALSE NEIGHBOUR: 'it returns false'. Refute it at one input. -/
def pngTurnedWrong : ChangeSpec := { name := "pngTurned", fn := fun _ => fun
  | [d1, d2, d3] => { results := [.lit (.bool false)], args := [d1, d2, d3] }
  | _ => none }
def PngTurnedWrongFalsely : Prop := pngTurnedRow.holds Tryz.pinned (OpenSpec.ofChange pngTurnedWrong)

/- THE SECOND FORM. 'bulk': how many values and letters a reading holds, each counted each time it is reached (what is shared counts as often as it is met; a slice's spare places count too). A statement '..UptoSaid' is the law's where the arguments, and the package variables that the reading takes, are together of bulk at most 1048576: NARROWER than '..Said'. Prove '..Said' where nothing that the law and all that it calls make is longer than what came in: it says more and counts as full. Else prove '..UptoSaid'. A law counts once. -/
mutual
def uptoBulk {H : Type} : DataW H → Nat
  | .lit (.string bytes) => bytes.length + 1
  | .lit _ => 1
  | .nil => 1
  | .ptr d => uptoBulk d + 1
  | .slice elems spare => uptoBulkAll elems + uptoBulkAll spare + 1
  | .agg parts => uptoBulkAll parts + 1
  | .iface _ d => uptoBulk d + 1
  | .map entries => uptoBulkEntries entries + 1
  | .held _ => 1
def uptoBulkAll {H : Type} : List (DataW H) → Nat
  | [] => 0
  | d :: r => uptoBulk d + uptoBulkAll r
def uptoBulkEntries {H : Type} : List (Lit × DataW H) → Nat
  | [] => 0
  | x :: r => uptoBulkEntry x + uptoBulkEntries r
def uptoBulkEntry {H : Type} : Lit × DataW H → Nat
  | (.string bytes, d) => bytes.length + uptoBulk d + 1
  | (_, d) => uptoBulk d + 1
 end
def uptoSmall : (H : Type) → List (DataW H) → Bool := fun _ ds => decide (uptoBulkAll ds ≤ 1048576)
def OpenSpec.upto (s : _root_.Go.ChangeSpec) : _root_.Go.OpenSpec := { _root_.Go.OpenSpec.ofChange s with cond := some uptoSmall }

/-- 'mortiselaw17.PngSplits', WHERE WHAT IT READS IS OF BULK AT MOST 1048576: true; the input reads as it did. -/
def pngSplitsUptoRow : OpenClaim := { program := "ytomkjiipmhglcaagreatdoor", sum := "cb7855cd4c32b560c5c56a1ca2e1a1345365e2564f2862b7a2b8da9950cdcd86", func := "mortise/mortiselaw17.PngSplits", spec := "pngSplits", inPlace := ["internal/abi.NoEscape"], unfollowed := true, recurses := true, named := ["mortise/png.colors", "mortise/deflate.order", "mortise/sums.half", "mortise/inflate.lengths", "mortise/inflate.distances", "mortise/inflate.order"], plainKeys := false, apart := false, laid := [("mortise/sums.half", laid_mortise_sums_half), ("mortise/deflate.order", laid_mortise_deflate_order), ("mortise/inflate.lengths", laid_mortise_inflate_lengths), ("mortise/inflate.distances", laid_mortise_inflate_distances), ("mortise/inflate.order", laid_mortise_inflate_order), ("mortise/png.colors", laid_mortise_png_colors)], narrowed := true }
def PngSplitsUptoSaid : Prop := pngSplitsUptoRow.holds Tryz.pinned (OpenSpec.upto pngSplitsSpec)

/-- 'mortiselaw17.PngJoins', WHERE WHAT IT READS IS OF BULK AT MOST 1048576: true; the input reads as it did. -/
def pngJoinsUptoRow : OpenClaim := { program := "ytomkjiipmhglcaagreatdoor", sum := "cb7855cd4c32b560c5c56a1ca2e1a1345365e2564f2862b7a2b8da9950cdcd86", func := "mortise/mortiselaw17.PngJoins", spec := "pngJoins", inPlace := ["internal/abi.NoEscape"], unfollowed := true, recurses := true, named := ["mortise/png.colors", "mortise/deflate.order", "mortise/sums.half", "mortise/inflate.lengths", "mortise/inflate.distances", "mortise/inflate.order"], plainKeys := false, apart := false, laid := [("mortise/sums.half", laid_mortise_sums_half), ("mortise/deflate.order", laid_mortise_deflate_order), ("mortise/inflate.lengths", laid_mortise_inflate_lengths), ("mortise/inflate.distances", laid_mortise_inflate_distances), ("mortise/inflate.order", laid_mortise_inflate_order), ("mortise/png.colors", laid_mortise_png_colors)], narrowed := true }
def PngJoinsUptoSaid : Prop := pngJoinsUptoRow.holds Tryz.pinned (OpenSpec.upto pngJoinsSpec)

/-- 'mortiselaw17.PngDecodes', WHERE WHAT IT READS IS OF BULK AT MOST 1048576: true; the input reads as it did. -/
def pngDecodesUptoRow : OpenClaim := { program := "ytomkjiipmhglcaagreatdoor", sum := "cb7855cd4c32b560c5c56a1ca2e1a1345365e2564f2862b7a2b8da9950cdcd86", func := "mortise/mortiselaw17.PngDecodes", spec := "pngDecodes", inPlace := ["internal/abi.NoEscape"], unfollowed := true, recurses := true, named := ["mortise/png.colors", "mortise/deflate.order", "mortise/sums.half", "mortise/inflate.lengths", "mortise/inflate.distances", "mortise/inflate.order"], plainKeys := false, apart := false, laid := [("mortise/sums.half", laid_mortise_sums_half), ("mortise/deflate.order", laid_mortise_deflate_order), ("mortise/inflate.lengths", laid_mortise_inflate_lengths), ("mortise/inflate.distances", laid_mortise_inflate_distances), ("mortise/inflate.order", laid_mortise_inflate_order), ("mortise/png.colors", laid_mortise_png_colors)], narrowed := true }
def PngDecodesUptoSaid : Prop := pngDecodesUptoRow.holds Tryz.pinned (OpenSpec.upto pngDecodesSpec)

/-- 'mortiselaw17.PngEncodes', WHERE WHAT IT READS IS OF BULK AT MOST 1048576: true; the input reads as it did. -/
def pngEncodesUptoRow : OpenClaim := { program := "ytomkjiipmhglcaagreatdoor", sum := "cb7855cd4c32b560c5c56a1ca2e1a1345365e2564f2862b7a2b8da9950cdcd86", func := "mortise/mortiselaw17.PngEncodes", spec := "pngEncodes", inPlace := ["internal/abi.NoEscape"], unfollowed := true, recurses := true, named := ["mortise/png.colors", "mortise/deflate.order", "mortise/sums.half", "mortise/inflate.lengths", "mortise/inflate.distances", "mortise/inflate.order"], plainKeys := false, apart := false, laid := [("mortise/sums.half", laid_mortise_sums_half), ("mortise/deflate.order", laid_mortise_deflate_order), ("mortise/inflate.lengths", laid_mortise_inflate_lengths), ("mortise/inflate.distances", laid_mortise_inflate_distances), ("mortise/inflate.order", laid_mortise_inflate_order), ("mortise/png.colors", laid_mortise_png_colors)], narrowed := true }
def PngEncodesUptoSaid : Prop := pngEncodesUptoRow.holds Tryz.pinned (OpenSpec.upto pngEncodesSpec)

/-- 'mortiselaw17.PngBack', WHERE WHAT IT READS IS OF BULK AT MOST 1048576: true; the input reads as it did. -/
def pngBackUptoRow : OpenClaim := { program := "ytomkjiipmhglcaagreatdoor", sum := "cb7855cd4c32b560c5c56a1ca2e1a1345365e2564f2862b7a2b8da9950cdcd86", func := "mortise/mortiselaw17.PngBack", spec := "pngBack", inPlace := ["internal/abi.NoEscape"], unfollowed := true, recurses := true, named := ["mortise/png.colors", "mortise/deflate.order", "mortise/sums.half", "mortise/inflate.lengths", "mortise/inflate.distances", "mortise/inflate.order"], plainKeys := false, apart := false, laid := [("mortise/sums.half", laid_mortise_sums_half), ("mortise/deflate.order", laid_mortise_deflate_order), ("mortise/inflate.lengths", laid_mortise_inflate_lengths), ("mortise/inflate.distances", laid_mortise_inflate_distances), ("mortise/inflate.order", laid_mortise_inflate_order), ("mortise/png.colors", laid_mortise_png_colors)], narrowed := true }
def PngBackUptoSaid : Prop := pngBackUptoRow.holds Tryz.pinned (OpenSpec.upto pngBackSpec)

/-- 'mortiselaw17.PngTurned', WHERE WHAT IT READS IS OF BULK AT MOST 1048576: true; the input reads as it did. -/
def pngTurnedUptoRow : OpenClaim := { program := "ytomkjiipmhglcaagreatdoor", sum := "cb7855cd4c32b560c5c56a1ca2e1a1345365e2564f2862b7a2b8da9950cdcd86", func := "mortise/mortiselaw17.PngTurned", spec := "pngTurned", inPlace := ["internal/abi.NoEscape"], unfollowed := true, recurses := true, named := ["mortise/png.colors", "mortise/deflate.order", "mortise/sums.half", "mortise/inflate.lengths", "mortise/inflate.distances", "mortise/inflate.order"], plainKeys := false, apart := false, laid := [("mortise/sums.half", laid_mortise_sums_half), ("mortise/deflate.order", laid_mortise_deflate_order), ("mortise/inflate.lengths", laid_mortise_inflate_lengths), ("mortise/inflate.distances", laid_mortise_inflate_distances), ("mortise/inflate.order", laid_mortise_inflate_order), ("mortise/png.colors", laid_mortise_png_colors)], narrowed := true }
def PngTurnedUptoSaid : Prop := pngTurnedUptoRow.holds Tryz.pinned (OpenSpec.upto pngTurnedSpec)

end Rows
end Go.Proofs.YtomkjiipmhglcaaGreatDoor
