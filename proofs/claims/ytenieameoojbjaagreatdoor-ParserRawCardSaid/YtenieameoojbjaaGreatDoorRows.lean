/-
  NARROWER THAN 'FOR EVERY INPUT', by the rows' own cells (each row's printed sentence says how): ParserRaw: laid · ParserBuilt: laid · ParserTokens: laid · ParserParentheses: laid · ParserPrefix: laid · ParserBlanks: laid.
  DERIVED. THE GIVEN ROWS OF THIS SEAT. 6 by the template 'for every input the law returns true; each argument reads behind the call as it read before'; 0 by the template 'total and deterministic' (their statements: YtenieameoojbjaaGreatDoorTotals.lean).
  GIVEN WITH THE SEED: the statements are not yours to turn. If you find one false, say at which input.
  Laid BY PROGRAM, IN A SANDBOX (cutbox-rows.mjs): the forced cells as the released guide's own fill.sh prints them over the translation 1bacc55101261311… (all of the seat's roots in one cut). By AI agents, Wed Nov 11 2026. No macro, syntax, notation, axiom, sorry.
-/
import Derived.Test.YtenieameoojbjaaGreatDoorChecked
import GoSem.Claim
import GoSem.ClaimJoined
import GoSem.ClaimMapViews
import Derived.JoinedTies
import Derived.KernelRfl
namespace Go.Proofs.YtenieameoojbjaaGreatDoor
/- THE CELL 'sum', in the pinned program and in every row, IS THE sha256 OF THE DUMP (.gsa) THAT YtenieameoojbjaaGreatDoorProg.lean LOADS. Nothing in Lean hashes anything: it is a label: what it is worth is what the hold of that sum in a sandbox is worth. -/
noncomputable def Tryz.pinned : Pinned := { name := "ytenieameoojbjaagreatdoor", sum := "1bacc551012613116b1ca13cd74987024b920a47f764f4139de090eb7042e29a", checked := Tryz.checked }
namespace Rows
def none {H : Type} : Left H := { results := [], args := [] }

/- WHAT THE LISTED PACKAGE-LEVEL VARIABLES READ AS WHEN THE CALL BEGINS. Each datum BY PROGRAM (the guide's laid-datum.mjs) off the statement by which the dump's own 'gosem.cut.vars' lays the variable. In a bare row this is a premise. The card (YtenieameoojbjaaGreatDoorCards.lean) ties it to the program's text. -/
def laid_unicode_White_Space {H : Type} : DataW H := .ptr (.agg [.slice [.agg [.lit (.int .u16 9), .lit (.int .u16 13), .lit (.int .u16 1)], .agg [.lit (.int .u16 32), .lit (.int .u16 133), .lit (.int .u16 101)], .agg [.lit (.int .u16 160), .lit (.int .u16 5760), .lit (.int .u16 5600)], .agg [.lit (.int .u16 8192), .lit (.int .u16 8202), .lit (.int .u16 1)], .agg [.lit (.int .u16 8232), .lit (.int .u16 8233), .lit (.int .u16 1)], .agg [.lit (.int .u16 8239), .lit (.int .u16 8287), .lit (.int .u16 48)], .agg [.lit (.int .u16 12288), .lit (.int .u16 12288), .lit (.int .u16 1)]] [], .nil, .lit (.int .i64 2)])
def laid_strings_asciiSpace {H : Type} : DataW H := .agg [.lit (.int .u8 0), .lit (.int .u8 0), .lit (.int .u8 0), .lit (.int .u8 0), .lit (.int .u8 0), .lit (.int .u8 0), .lit (.int .u8 0), .lit (.int .u8 0), .lit (.int .u8 0), .lit (.int .u8 1), .lit (.int .u8 1), .lit (.int .u8 1), .lit (.int .u8 1), .lit (.int .u8 1), .lit (.int .u8 0), .lit (.int .u8 0), .lit (.int .u8 0), .lit (.int .u8 0), .lit (.int .u8 0), .lit (.int .u8 0), .lit (.int .u8 0), .lit (.int .u8 0), .lit (.int .u8 0), .lit (.int .u8 0), .lit (.int .u8 0), .lit (.int .u8 0), .lit (.int .u8 0), .lit (.int .u8 0), .lit (.int .u8 0), .lit (.int .u8 0), .lit (.int .u8 0), .lit (.int .u8 0), .lit (.int .u8 1), .lit (.int .u8 0), .lit (.int .u8 0), .lit (.int .u8 0), .lit (.int .u8 0), .lit (.int .u8 0), .lit (.int .u8 0), .lit (.int .u8 0), .lit (.int .u8 0), .lit (.int .u8 0), .lit (.int .u8 0), .lit (.int .u8 0), .lit (.int .u8 0), .lit (.int .u8 0), .lit (.int .u8 0), .lit (.int .u8 0), .lit (.int .u8 0), .lit (.int .u8 0), .lit (.int .u8 0), .lit (.int .u8 0), .lit (.int .u8 0), .lit (.int .u8 0), .lit (.int .u8 0), .lit (.int .u8 0), .lit (.int .u8 0), .lit (.int .u8 0), .lit (.int .u8 0), .lit (.int .u8 0), .lit (.int .u8 0), .lit (.int .u8 0), .lit (.int .u8 0), .lit (.int .u8 0), .lit (.int .u8 0), .lit (.int .u8 0), .lit (.int .u8 0), .lit (.int .u8 0), .lit (.int .u8 0), .lit (.int .u8 0), .lit (.int .u8 0), .lit (.int .u8 0), .lit (.int .u8 0), .lit (.int .u8 0), .lit (.int .u8 0), .lit (.int .u8 0), .lit (.int .u8 0), .lit (.int .u8 0), .lit (.int .u8 0), .lit (.int .u8 0), .lit (.int .u8 0), .lit (.int .u8 0), .lit (.int .u8 0), .lit (.int .u8 0), .lit (.int .u8 0), .lit (.int .u8 0), .lit (.int .u8 0), .lit (.int .u8 0), .lit (.int .u8 0), .lit (.int .u8 0), .lit (.int .u8 0), .lit (.int .u8 0), .lit (.int .u8 0), .lit (.int .u8 0), .lit (.int .u8 0), .lit (.int .u8 0), .lit (.int .u8 0), .lit (.int .u8 0), .lit (.int .u8 0), .lit (.int .u8 0), .lit (.int .u8 0), .lit (.int .u8 0), .lit (.int .u8 0), .lit (.int .u8 0), .lit (.int .u8 0), .lit (.int .u8 0), .lit (.int .u8 0), .lit (.int .u8 0), .lit (.int .u8 0), .lit (.int .u8 0), .lit (.int .u8 0), .lit (.int .u8 0), .lit (.int .u8 0), .lit (.int .u8 0), .lit (.int .u8 0), .lit (.int .u8 0), .lit (.int .u8 0), .lit (.int .u8 0), .lit (.int .u8 0), .lit (.int .u8 0), .lit (.int .u8 0), .lit (.int .u8 0), .lit (.int .u8 0), .lit (.int .u8 0), .lit (.int .u8 0), .lit (.int .u8 0), .lit (.int .u8 0), .lit (.int .u8 0), .lit (.int .u8 0), .lit (.int .u8 0), .lit (.int .u8 0), .lit (.int .u8 0), .lit (.int .u8 0), .lit (.int .u8 0), .lit (.int .u8 0), .lit (.int .u8 0), .lit (.int .u8 0), .lit (.int .u8 0), .lit (.int .u8 0), .lit (.int .u8 0), .lit (.int .u8 0), .lit (.int .u8 0), .lit (.int .u8 0), .lit (.int .u8 0), .lit (.int .u8 0), .lit (.int .u8 0), .lit (.int .u8 0), .lit (.int .u8 0), .lit (.int .u8 0), .lit (.int .u8 0), .lit (.int .u8 0), .lit (.int .u8 0), .lit (.int .u8 0), .lit (.int .u8 0), .lit (.int .u8 0), .lit (.int .u8 0), .lit (.int .u8 0), .lit (.int .u8 0), .lit (.int .u8 0), .lit (.int .u8 0), .lit (.int .u8 0), .lit (.int .u8 0), .lit (.int .u8 0), .lit (.int .u8 0), .lit (.int .u8 0), .lit (.int .u8 0), .lit (.int .u8 0), .lit (.int .u8 0), .lit (.int .u8 0), .lit (.int .u8 0), .lit (.int .u8 0), .lit (.int .u8 0), .lit (.int .u8 0), .lit (.int .u8 0), .lit (.int .u8 0), .lit (.int .u8 0), .lit (.int .u8 0), .lit (.int .u8 0), .lit (.int .u8 0), .lit (.int .u8 0), .lit (.int .u8 0), .lit (.int .u8 0), .lit (.int .u8 0), .lit (.int .u8 0), .lit (.int .u8 0), .lit (.int .u8 0), .lit (.int .u8 0), .lit (.int .u8 0), .lit (.int .u8 0), .lit (.int .u8 0), .lit (.int .u8 0), .lit (.int .u8 0), .lit (.int .u8 0), .lit (.int .u8 0), .lit (.int .u8 0), .lit (.int .u8 0), .lit (.int .u8 0), .lit (.int .u8 0), .lit (.int .u8 0), .lit (.int .u8 0), .lit (.int .u8 0), .lit (.int .u8 0), .lit (.int .u8 0), .lit (.int .u8 0), .lit (.int .u8 0), .lit (.int .u8 0), .lit (.int .u8 0), .lit (.int .u8 0), .lit (.int .u8 0), .lit (.int .u8 0), .lit (.int .u8 0), .lit (.int .u8 0), .lit (.int .u8 0), .lit (.int .u8 0), .lit (.int .u8 0), .lit (.int .u8 0), .lit (.int .u8 0), .lit (.int .u8 0), .lit (.int .u8 0), .lit (.int .u8 0), .lit (.int .u8 0), .lit (.int .u8 0), .lit (.int .u8 0), .lit (.int .u8 0), .lit (.int .u8 0), .lit (.int .u8 0), .lit (.int .u8 0), .lit (.int .u8 0), .lit (.int .u8 0), .lit (.int .u8 0), .lit (.int .u8 0), .lit (.int .u8 0), .lit (.int .u8 0), .lit (.int .u8 0), .lit (.int .u8 0), .lit (.int .u8 0), .lit (.int .u8 0), .lit (.int .u8 0), .lit (.int .u8 0), .lit (.int .u8 0), .lit (.int .u8 0), .lit (.int .u8 0), .lit (.int .u8 0), .lit (.int .u8 0), .lit (.int .u8 0), .lit (.int .u8 0), .lit (.int .u8 0), .lit (.int .u8 0), .lit (.int .u8 0), .lit (.int .u8 0), .lit (.int .u8 0), .lit (.int .u8 0), .lit (.int .u8 0), .lit (.int .u8 0), .lit (.int .u8 0), .lit (.int .u8 0)]
def laid_exactppl_parser_levels {H : Type} : DataW H := .slice [.map [(.string [124, 124], .lit (.int .i64 7))], .map [(.string [38, 38], .lit (.int .i64 6))], .map [(.string [43], .lit (.int .i64 12)), (.string [45], .lit (.int .i64 13))], .map [(.string [42], .lit (.int .i64 14))]] []

/-- 'exactppllaw09.ParserRaw': WHATEVER THE INPUT: true; the input reads as it did. -/
def parserRawSpec : ChangeSpec := { name := "parserRaw", fn := fun _ => fun
  | [d] => { results := [.lit (.bool true)], args := [d] }
  | _ => none }
def parserRawRow : OpenClaim := { program := "ytenieameoojbjaagreatdoor", sum := "1bacc551012613116b1ca13cd74987024b920a47f764f4139de090eb7042e29a", func := "exactppl/exactppllaw09.ParserRaw", spec := "parserRaw", unfollowed := true, recurses := true, named := ["strings.asciiSpace", "unicode.White_Space", "exactppl/parser.levels", "math/bits.overflowError"], apart := false, laid := [("unicode.White_Space", laid_unicode_White_Space), ("strings.asciiSpace", laid_strings_asciiSpace), ("exactppl/parser.levels", laid_exactppl_parser_levels)] }
def ParserRawSaid : Prop := parserRawRow.holds Tryz.pinned (OpenSpec.ofChange parserRawSpec)

/-- ITS FALSE NEIGHBOUR: 'it returns false'. Refute it at one input. -/
def parserRawWrong : ChangeSpec := { name := "parserRaw", fn := fun _ => fun
  | [d] => { results := [.lit (.bool false)], args := [d] }
  | _ => none }
def ParserRawWrongFalsely : Prop := parserRawRow.holds Tryz.pinned (OpenSpec.ofChange parserRawWrong)

/-- 'exactppllaw09.ParserBuilt': WHATEVER THE INPUT: true; the input reads as it did. -/
def parserBuiltSpec : ChangeSpec := { name := "parserBuilt", fn := fun _ => fun
  | [d1, d2] => { results := [.lit (.bool true)], args := [d1, d2] }
  | _ => none }
def parserBuiltRow : OpenClaim := { program := "ytenieameoojbjaagreatdoor", sum := "1bacc551012613116b1ca13cd74987024b920a47f764f4139de090eb7042e29a", func := "exactppl/exactppllaw09.ParserBuilt", spec := "parserBuilt", unfollowed := true, recurses := true, named := ["strings.asciiSpace", "unicode.White_Space", "exactppl/parser.levels", "math/bits.overflowError"], apart := false, laid := [("unicode.White_Space", laid_unicode_White_Space), ("strings.asciiSpace", laid_strings_asciiSpace), ("exactppl/parser.levels", laid_exactppl_parser_levels)] }
def ParserBuiltSaid : Prop := parserBuiltRow.holds Tryz.pinned (OpenSpec.ofChange parserBuiltSpec)

/-- ITS FALSE NEIGHBOUR: 'it returns false'. Refute it at one input. -/
def parserBuiltWrong : ChangeSpec := { name := "parserBuilt", fn := fun _ => fun
  | [d1, d2] => { results := [.lit (.bool false)], args := [d1, d2] }
  | _ => none }
def ParserBuiltWrongFalsely : Prop := parserBuiltRow.holds Tryz.pinned (OpenSpec.ofChange parserBuiltWrong)

/-- 'exactppllaw09.ParserTokens': WHATEVER THE INPUT: true; the input reads as it did. -/
def parserTokensSpec : ChangeSpec := { name := "parserTokens", fn := fun _ => fun
  | [d1, d2] => { results := [.lit (.bool true)], args := [d1, d2] }
  | _ => none }
def parserTokensRow : OpenClaim := { program := "ytenieameoojbjaagreatdoor", sum := "1bacc551012613116b1ca13cd74987024b920a47f764f4139de090eb7042e29a", func := "exactppl/exactppllaw09.ParserTokens", spec := "parserTokens", unfollowed := true, recurses := true, named := ["strings.asciiSpace", "unicode.White_Space", "exactppl/parser.levels", "math/bits.overflowError"], apart := false, laid := [("unicode.White_Space", laid_unicode_White_Space), ("strings.asciiSpace", laid_strings_asciiSpace), ("exactppl/parser.levels", laid_exactppl_parser_levels)] }
def ParserTokensSaid : Prop := parserTokensRow.holds Tryz.pinned (OpenSpec.ofChange parserTokensSpec)

/-- ITS FALSE NEIGHBOUR: 'it returns false'. Refute it at one input. -/
def parserTokensWrong : ChangeSpec := { name := "parserTokens", fn := fun _ => fun
  | [d1, d2] => { results := [.lit (.bool false)], args := [d1, d2] }
  | _ => none }
def ParserTokensWrongFalsely : Prop := parserTokensRow.holds Tryz.pinned (OpenSpec.ofChange parserTokensWrong)

/-- 'exactppllaw09.ParserParentheses': WHATEVER THE INPUT: true; the input reads as it did. -/
def parserParenthesesSpec : ChangeSpec := { name := "parserParentheses", fn := fun _ => fun
  | [d] => { results := [.lit (.bool true)], args := [d] }
  | _ => none }
def parserParenthesesRow : OpenClaim := { program := "ytenieameoojbjaagreatdoor", sum := "1bacc551012613116b1ca13cd74987024b920a47f764f4139de090eb7042e29a", func := "exactppl/exactppllaw09.ParserParentheses", spec := "parserParentheses", unfollowed := true, recurses := true, named := ["strings.asciiSpace", "unicode.White_Space", "exactppl/parser.levels", "math/bits.overflowError"], apart := false, laid := [("unicode.White_Space", laid_unicode_White_Space), ("strings.asciiSpace", laid_strings_asciiSpace), ("exactppl/parser.levels", laid_exactppl_parser_levels)] }
def ParserParenthesesSaid : Prop := parserParenthesesRow.holds Tryz.pinned (OpenSpec.ofChange parserParenthesesSpec)

/-- ITS FALSE NEIGHBOUR: 'it returns false'. Refute it at one input. -/
def parserParenthesesWrong : ChangeSpec := { name := "parserParentheses", fn := fun _ => fun
  | [d] => { results := [.lit (.bool false)], args := [d] }
  | _ => none }
def ParserParenthesesWrongFalsely : Prop := parserParenthesesRow.holds Tryz.pinned (OpenSpec.ofChange parserParenthesesWrong)

/-- 'exactppllaw09.ParserPrefix': WHATEVER THE INPUT: true; the input reads as it did. -/
def parserPrefixSpec : ChangeSpec := { name := "parserPrefix", fn := fun _ => fun
  | [d1, d2, d3] => { results := [.lit (.bool true)], args := [d1, d2, d3] }
  | _ => none }
def parserPrefixRow : OpenClaim := { program := "ytenieameoojbjaagreatdoor", sum := "1bacc551012613116b1ca13cd74987024b920a47f764f4139de090eb7042e29a", func := "exactppl/exactppllaw09.ParserPrefix", spec := "parserPrefix", unfollowed := true, recurses := true, named := ["strings.asciiSpace", "unicode.White_Space", "exactppl/parser.levels", "math/bits.overflowError"], apart := false, laid := [("unicode.White_Space", laid_unicode_White_Space), ("strings.asciiSpace", laid_strings_asciiSpace), ("exactppl/parser.levels", laid_exactppl_parser_levels)] }
def ParserPrefixSaid : Prop := parserPrefixRow.holds Tryz.pinned (OpenSpec.ofChange parserPrefixSpec)

/-- ITS FALSE NEIGHBOUR: 'it returns false'. Refute it at one input. -/
def parserPrefixWrong : ChangeSpec := { name := "parserPrefix", fn := fun _ => fun
  | [d1, d2, d3] => { results := [.lit (.bool false)], args := [d1, d2, d3] }
  | _ => none }
def ParserPrefixWrongFalsely : Prop := parserPrefixRow.holds Tryz.pinned (OpenSpec.ofChange parserPrefixWrong)

/-- 'exactppllaw09.ParserBlanks': WHATEVER THE INPUT: true; the input reads as it did. -/
def parserBlanksSpec : ChangeSpec := { name := "parserBlanks", fn := fun _ => fun
  | [d1, d2, d3] => { results := [.lit (.bool true)], args := [d1, d2, d3] }
  | _ => none }
def parserBlanksRow : OpenClaim := { program := "ytenieameoojbjaagreatdoor", sum := "1bacc551012613116b1ca13cd74987024b920a47f764f4139de090eb7042e29a", func := "exactppl/exactppllaw09.ParserBlanks", spec := "parserBlanks", unfollowed := true, recurses := true, named := ["strings.asciiSpace", "unicode.White_Space", "exactppl/parser.levels", "math/bits.overflowError"], apart := false, laid := [("unicode.White_Space", laid_unicode_White_Space), ("strings.asciiSpace", laid_strings_asciiSpace), ("exactppl/parser.levels", laid_exactppl_parser_levels)] }
def ParserBlanksSaid : Prop := parserBlanksRow.holds Tryz.pinned (OpenSpec.ofChange parserBlanksSpec)

/-- ITS FALSE NEIGHBOUR: 'it returns false'. Refute it at one input. -/
def parserBlanksWrong : ChangeSpec := { name := "parserBlanks", fn := fun _ => fun
  | [d1, d2, d3] => { results := [.lit (.bool false)], args := [d1, d2, d3] }
  | _ => none }
def ParserBlanksWrongFalsely : Prop := parserBlanksRow.holds Tryz.pinned (OpenSpec.ofChange parserBlanksWrong)

/- THE SECOND FORM. 'bulk': how many values and letters a reading holds, each counted each time it is reached (what is shared counts as often as it is met; a slice's spare places count too). A statement '..UptoSaid' is the law's where the arguments, and the package variables that the reading takes, are together of bulk at most 1048576: NARROWER than '..Said'. Prove '..Said' where nothing that the law and all that it calls make is longer than what came in: it says more and counts as full. Else prove '..UptoSaid'. A law counts once. -/
mutual
def uptoBulk {H : Type} : DataW H → Nat
  | .lit (.string bytes) => bytes.length + 1
  | .lit _ => 1
  | .nil => 1
  | .ptr d => uptoBulk d + 1
  | .slice elems spare => uptoBulkAll elems + uptoBulkAll spare + 1
  | .agg parts => uptoBulkAll parts + 1
  | .iface _ d => uptoBulk d + 1
  | .map entries => uptoBulkEntries entries + 1
  | .held _ => 1
def uptoBulkAll {H : Type} : List (DataW H) → Nat
  | [] => 0
  | d :: r => uptoBulk d + uptoBulkAll r
def uptoBulkEntries {H : Type} : List (Lit × DataW H) → Nat
  | [] => 0
  | x :: r => uptoBulkEntry x + uptoBulkEntries r
def uptoBulkEntry {H : Type} : Lit × DataW H → Nat
  | (.string bytes, d) => bytes.length + uptoBulk d + 1
  | (_, d) => uptoBulk d + 1
 end
def uptoSmall : (H : Type) → List (DataW H) → Bool := fun _ ds => decide (uptoBulkAll ds ≤ 1048576)
def OpenSpec.upto (s : _root_.Go.ChangeSpec) : _root_.Go.OpenSpec := { _root_.Go.OpenSpec.ofChange s with cond := some uptoSmall }

/-- 'exactppllaw09.ParserRaw', WHERE WHAT IT READS IS OF BULK AT MOST 1048576: true; the input reads as it did. -/
def parserRawUptoRow : OpenClaim := { program := "ytenieameoojbjaagreatdoor", sum := "1bacc551012613116b1ca13cd74987024b920a47f764f4139de090eb7042e29a", func := "exactppl/exactppllaw09.ParserRaw", spec := "parserRaw", unfollowed := true, recurses := true, named := ["strings.asciiSpace", "unicode.White_Space", "exactppl/parser.levels", "math/bits.overflowError"], apart := false, laid := [("unicode.White_Space", laid_unicode_White_Space), ("strings.asciiSpace", laid_strings_asciiSpace), ("exactppl/parser.levels", laid_exactppl_parser_levels)], narrowed := true }
def ParserRawUptoSaid : Prop := parserRawUptoRow.holds Tryz.pinned (OpenSpec.upto parserRawSpec)

/-- 'exactppllaw09.ParserBuilt', WHERE WHAT IT READS IS OF BULK AT MOST 1048576: true; the input reads as it did. -/
def parserBuiltUptoRow : OpenClaim := { program := "ytenieameoojbjaagreatdoor", sum := "1bacc551012613116b1ca13cd74987024b920a47f764f4139de090eb7042e29a", func := "exactppl/exactppllaw09.ParserBuilt", spec := "parserBuilt", unfollowed := true, recurses := true, named := ["strings.asciiSpace", "unicode.White_Space", "exactppl/parser.levels", "math/bits.overflowError"], apart := false, laid := [("unicode.White_Space", laid_unicode_White_Space), ("strings.asciiSpace", laid_strings_asciiSpace), ("exactppl/parser.levels", laid_exactppl_parser_levels)], narrowed := true }
def ParserBuiltUptoSaid : Prop := parserBuiltUptoRow.holds Tryz.pinned (OpenSpec.upto parserBuiltSpec)

/-- 'exactppllaw09.ParserTokens', WHERE WHAT IT READS IS OF BULK AT MOST 1048576: true; the input reads as it did. -/
def parserTokensUptoRow : OpenClaim := { program := "ytenieameoojbjaagreatdoor", sum := "1bacc551012613116b1ca13cd74987024b920a47f764f4139de090eb7042e29a", func := "exactppl/exactppllaw09.ParserTokens", spec := "parserTokens", unfollowed := true, recurses := true, named := ["strings.asciiSpace", "unicode.White_Space", "exactppl/parser.levels", "math/bits.overflowError"], apart := false, laid := [("unicode.White_Space", laid_unicode_White_Space), ("strings.asciiSpace", laid_strings_asciiSpace), ("exactppl/parser.levels", laid_exactppl_parser_levels)], narrowed := true }
def ParserTokensUptoSaid : Prop := parserTokensUptoRow.holds Tryz.pinned (OpenSpec.upto parserTokensSpec)

/-- 'exactppllaw09.ParserParentheses', WHERE WHAT IT READS IS OF BULK AT MOST 1048576: true; the input reads as it did. -/
def parserParenthesesUptoRow : OpenClaim := { program := "ytenieameoojbjaagreatdoor", sum := "1bacc551012613116b1ca13cd74987024b920a47f764f4139de090eb7042e29a", func := "exactppl/exactppllaw09.ParserParentheses", spec := "parserParentheses", unfollowed := true, recurses := true, named := ["strings.asciiSpace", "unicode.White_Space", "exactppl/parser.levels", "math/bits.overflowError"], apart := false, laid := [("unicode.White_Space", laid_unicode_White_Space), ("strings.asciiSpace", laid_strings_asciiSpace), ("exactppl/parser.levels", laid_exactppl_parser_levels)], narrowed := true }
def ParserParenthesesUptoSaid : Prop := parserParenthesesUptoRow.holds Tryz.pinned (OpenSpec.upto parserParenthesesSpec)

/-- 'exactppllaw09.ParserPrefix', WHERE WHAT IT READS IS OF BULK AT MOST 1048576: true; the input reads as it did. -/
def parserPrefixUptoRow : OpenClaim := { program := "ytenieameoojbjaagreatdoor", sum := "1bacc551012613116b1ca13cd74987024b920a47f764f4139de090eb7042e29a", func := "exactppl/exactppllaw09.ParserPrefix", spec := "parserPrefix", unfollowed := true, recurses := true, named := ["strings.asciiSpace", "unicode.White_Space", "exactppl/parser.levels", "math/bits.overflowError"], apart := false, laid := [("unicode.White_Space", laid_unicode_White_Space), ("strings.asciiSpace", laid_strings_asciiSpace), ("exactppl/parser.levels", laid_exactppl_parser_levels)], narrowed := true }
def ParserPrefixUptoSaid : Prop := parserPrefixUptoRow.holds Tryz.pinned (OpenSpec.upto parserPrefixSpec)

/-- 'exactppllaw09.ParserBlanks', WHERE WHAT IT READS IS OF BULK AT MOST 1048576: true; the input reads as it did. -/
def parserBlanksUptoRow : OpenClaim := { program := "ytenieameoojbjaagreatdoor", sum := "1bacc551012613116b1ca13cd74987024b920a47f764f4139de090eb7042e29a", func := "exactppl/exactppllaw09.ParserBlanks", spec := "parserBlanks", unfollowed := true, recurses := true, named := ["strings.asciiSpace", "unicode.White_Space", "exactppl/parser.levels", "math/bits.overflowError"], apart := false, laid := [("unicode.White_Space", laid_unicode_White_Space), ("strings.asciiSpace", laid_strings_asciiSpace), ("exactppl/parser.levels", laid_exactppl_parser_levels)], narrowed := true }
def ParserBlanksUptoSaid : Prop := parserBlanksUptoRow.holds Tryz.pinned (OpenSpec.upto parserBlanksSpec)

end Rows
end Go.Proofs.YtenieameoojbjaaGreatDoor
