/-
  DERIVED. GIVEN WITH THE SEED: THE PROGRAM's TIES (one call each: nine closed facts by the kernel) AND EACH ROW's TIE, after the 31st guide's Derived/Test/Toyas{Tie, Card}.lean. No idea stands in it: it is a product of the set-up. Laid BY PROGRAM, IN A SANDBOX (cutbox-door.mjs). By AI agents, Wed Nov 11 2026. No macro, syntax, notation, axiom, sorry.
-/
import Derived.Test.YtenieameoojbjaaGreatDoorRows
import Derived.LaidByTextLater
import Derived.SevenTiedAt
import Derived.LaidSub
import Derived.LaidOnce
namespace Go.Proofs.YtenieameoojbjaaGreatDoor
open Go
set_option maxRecDepth 100000
theorem seatTie1 : Tryz.prog.laidByTextLater [("unicode.White_Space", Rows.laid_unicode_White_Space), ("strings.asciiSpace", Rows.laid_strings_asciiSpace), ("exactppl/parser.levels", Rows.laid_exactppl_parser_levels)] [.listed, .data, .mapped] true :=
  Program.laidByTextLater_by_one 77 8 257 (by kernel_rfl) (by kernel_rfl) (by kernel_rfl) (by kernel_rfl) (by kernel_rfl) (by kernel_rfl) (fun _ _ => by kernel_rfl)
theorem noOwnUnsafe : Tryz.pinned.checked.prog.headLifts.contains "ownunsafe" = false := by kernel_rfl
theorem tie : Tryz.prog.laidByTextLater [("unicode.White_Space", Rows.laid_unicode_White_Space), ("strings.asciiSpace", Rows.laid_strings_asciiSpace), ("exactppl/parser.levels", Rows.laid_exactppl_parser_levels)] [.listed, .data, .mapped] true :=
  Program.laidByTextLater.sub seatTie1 ["unicode.White_Space", "strings.asciiSpace", "exactppl/parser.levels"] (by kernel_rfl) (by kernel_rfl)
theorem parserRaw_row_tie : Rows.parserRawRow.laidByTextAt .later Tryz.pinned [.listed, .data, .mapped] true :=
  OpenClaim.laidByTextAt_later rfl rfl tie noOwnUnsafe
theorem parserBuilt_row_tie : Rows.parserBuiltRow.laidByTextAt .later Tryz.pinned [.listed, .data, .mapped] true :=
  OpenClaim.laidByTextAt_later rfl rfl tie noOwnUnsafe
theorem parserTokens_row_tie : Rows.parserTokensRow.laidByTextAt .later Tryz.pinned [.listed, .data, .mapped] true :=
  OpenClaim.laidByTextAt_later rfl rfl tie noOwnUnsafe
theorem parserParentheses_row_tie : Rows.parserParenthesesRow.laidByTextAt .later Tryz.pinned [.listed, .data, .mapped] true :=
  OpenClaim.laidByTextAt_later rfl rfl tie noOwnUnsafe
theorem parserPrefix_row_tie : Rows.parserPrefixRow.laidByTextAt .later Tryz.pinned [.listed, .data, .mapped] true :=
  OpenClaim.laidByTextAt_later rfl rfl tie noOwnUnsafe
theorem parserBlanks_row_tie : Rows.parserBlanksRow.laidByTextAt .later Tryz.pinned [.listed, .data, .mapped] true :=
  OpenClaim.laidByTextAt_later rfl rfl tie noOwnUnsafe
theorem parserRawUpto_row_tie : Rows.parserRawUptoRow.laidByTextAt .later Tryz.pinned [.listed, .data, .mapped] true :=
  OpenClaim.laidByTextAt_later rfl rfl tie noOwnUnsafe
theorem parserBuiltUpto_row_tie : Rows.parserBuiltUptoRow.laidByTextAt .later Tryz.pinned [.listed, .data, .mapped] true :=
  OpenClaim.laidByTextAt_later rfl rfl tie noOwnUnsafe
theorem parserTokensUpto_row_tie : Rows.parserTokensUptoRow.laidByTextAt .later Tryz.pinned [.listed, .data, .mapped] true :=
  OpenClaim.laidByTextAt_later rfl rfl tie noOwnUnsafe
theorem parserParenthesesUpto_row_tie : Rows.parserParenthesesUptoRow.laidByTextAt .later Tryz.pinned [.listed, .data, .mapped] true :=
  OpenClaim.laidByTextAt_later rfl rfl tie noOwnUnsafe
theorem parserPrefixUpto_row_tie : Rows.parserPrefixUptoRow.laidByTextAt .later Tryz.pinned [.listed, .data, .mapped] true :=
  OpenClaim.laidByTextAt_later rfl rfl tie noOwnUnsafe
theorem parserBlanksUpto_row_tie : Rows.parserBlanksUptoRow.laidByTextAt .later Tryz.pinned [.listed, .data, .mapped] true :=
  OpenClaim.laidByTextAt_later rfl rfl tie noOwnUnsafe
end Go.Proofs.YtenieameoojbjaaGreatDoor
