/-
  DERIVED. GIVEN WITH THE SEED: THE CARDS: each row of YtenieameoojbjaaGreatDoorRows.lean that lists a variable, with what it lists TIED to the program's text (the seventh form; the later family's looks); each row that meets fmt, with fmt's text TOLD by the authors' own Lean function (tested against real Go, not proved from fmt's source: count such statements apart). THE CARD IS WHAT COUNTS. Prove the row's statement (the work); the ties are given (YtenieameoojbjaaGreatDoorTie.lean); close each card by the builder's one call (the guide's Derived/Test/ToyasCard.lean, 'card_holds'). Laid BY PROGRAM, IN A SANDBOX (cutbox-door.mjs). By AI agents, Wed Nov 11 2026. No macro, syntax, notation, axiom, sorry.
-/
import Derived.Test.YtenieameoojbjaaGreatDoorRows
import GoSem.ClaimSeven
namespace Go.Proofs.YtenieameoojbjaaGreatDoor
namespace Rows

/-- THE TIED CARD OF 'exactppllaw09.ParserRaw'. -/
def parserRawCard : Claim7 := { stood := { row := parserRawRow, standIns := [], harness := (true, "6ca0b693892fbc943eb33f15fdecf654b86a41446b45a363fa3f014fe567fda1"), looks := true }, kinds := [], alts := [], laidByText := true, laidKinds := [.listed, .data, .mapped], laidTests := true, laidLooks := .later }
def ParserRawCardSaid : Prop := Claim7.holds Tryz.pinned (.plain (OpenSpec.ofChange parserRawSpec)) parserRawCard

/-- THE TIED CARD OF 'exactppllaw09.ParserBuilt'. -/
def parserBuiltCard : Claim7 := { stood := { row := parserBuiltRow, standIns := [], harness := (true, "6ca0b693892fbc943eb33f15fdecf654b86a41446b45a363fa3f014fe567fda1"), looks := true }, kinds := [], alts := [], laidByText := true, laidKinds := [.listed, .data, .mapped], laidTests := true, laidLooks := .later }
def ParserBuiltCardSaid : Prop := Claim7.holds Tryz.pinned (.plain (OpenSpec.ofChange parserBuiltSpec)) parserBuiltCard

/-- THE TIED CARD OF 'exactppllaw09.ParserTokens'. -/
def parserTokensCard : Claim7 := { stood := { row := parserTokensRow, standIns := [], harness := (true, "6ca0b693892fbc943eb33f15fdecf654b86a41446b45a363fa3f014fe567fda1"), looks := true }, kinds := [], alts := [], laidByText := true, laidKinds := [.listed, .data, .mapped], laidTests := true, laidLooks := .later }
def ParserTokensCardSaid : Prop := Claim7.holds Tryz.pinned (.plain (OpenSpec.ofChange parserTokensSpec)) parserTokensCard

/-- THE TIED CARD OF 'exactppllaw09.ParserParentheses'. -/
def parserParenthesesCard : Claim7 := { stood := { row := parserParenthesesRow, standIns := [], harness := (true, "6ca0b693892fbc943eb33f15fdecf654b86a41446b45a363fa3f014fe567fda1"), looks := true }, kinds := [], alts := [], laidByText := true, laidKinds := [.listed, .data, .mapped], laidTests := true, laidLooks := .later }
def ParserParenthesesCardSaid : Prop := Claim7.holds Tryz.pinned (.plain (OpenSpec.ofChange parserParenthesesSpec)) parserParenthesesCard

/-- THE TIED CARD OF 'exactppllaw09.ParserPrefix'. -/
def parserPrefixCard : Claim7 := { stood := { row := parserPrefixRow, standIns := [], harness := (true, "6ca0b693892fbc943eb33f15fdecf654b86a41446b45a363fa3f014fe567fda1"), looks := true }, kinds := [], alts := [], laidByText := true, laidKinds := [.listed, .data, .mapped], laidTests := true, laidLooks := .later }
def ParserPrefixCardSaid : Prop := Claim7.holds Tryz.pinned (.plain (OpenSpec.ofChange parserPrefixSpec)) parserPrefixCard

/-- THE TIED CARD OF 'exactppllaw09.ParserBlanks'. -/
def parserBlanksCard : Claim7 := { stood := { row := parserBlanksRow, standIns := [], harness := (true, "6ca0b693892fbc943eb33f15fdecf654b86a41446b45a363fa3f014fe567fda1"), looks := true }, kinds := [], alts := [], laidByText := true, laidKinds := [.listed, .data, .mapped], laidTests := true, laidLooks := .later }
def ParserBlanksCardSaid : Prop := Claim7.holds Tryz.pinned (.plain (OpenSpec.ofChange parserBlanksSpec)) parserBlanksCard

/-- THE SECOND FORM's CARD OF 'exactppllaw09.ParserRaw'. -/
def parserRawUptoCard : Claim7 := { stood := { row := parserRawUptoRow, standIns := [], harness := (true, "6ca0b693892fbc943eb33f15fdecf654b86a41446b45a363fa3f014fe567fda1"), looks := true }, kinds := [], alts := [], laidByText := true, laidKinds := [.listed, .data, .mapped], laidTests := true, laidLooks := .later }
def ParserRawUptoCardSaid : Prop := Claim7.holds Tryz.pinned (.plain (OpenSpec.upto parserRawSpec)) parserRawUptoCard

/-- THE SECOND FORM's CARD OF 'exactppllaw09.ParserBuilt'. -/
def parserBuiltUptoCard : Claim7 := { stood := { row := parserBuiltUptoRow, standIns := [], harness := (true, "6ca0b693892fbc943eb33f15fdecf654b86a41446b45a363fa3f014fe567fda1"), looks := true }, kinds := [], alts := [], laidByText := true, laidKinds := [.listed, .data, .mapped], laidTests := true, laidLooks := .later }
def ParserBuiltUptoCardSaid : Prop := Claim7.holds Tryz.pinned (.plain (OpenSpec.upto parserBuiltSpec)) parserBuiltUptoCard

/-- THE SECOND FORM's CARD OF 'exactppllaw09.ParserTokens'. -/
def parserTokensUptoCard : Claim7 := { stood := { row := parserTokensUptoRow, standIns := [], harness := (true, "6ca0b693892fbc943eb33f15fdecf654b86a41446b45a363fa3f014fe567fda1"), looks := true }, kinds := [], alts := [], laidByText := true, laidKinds := [.listed, .data, .mapped], laidTests := true, laidLooks := .later }
def ParserTokensUptoCardSaid : Prop := Claim7.holds Tryz.pinned (.plain (OpenSpec.upto parserTokensSpec)) parserTokensUptoCard

/-- THE SECOND FORM's CARD OF 'exactppllaw09.ParserParentheses'. -/
def parserParenthesesUptoCard : Claim7 := { stood := { row := parserParenthesesUptoRow, standIns := [], harness := (true, "6ca0b693892fbc943eb33f15fdecf654b86a41446b45a363fa3f014fe567fda1"), looks := true }, kinds := [], alts := [], laidByText := true, laidKinds := [.listed, .data, .mapped], laidTests := true, laidLooks := .later }
def ParserParenthesesUptoCardSaid : Prop := Claim7.holds Tryz.pinned (.plain (OpenSpec.upto parserParenthesesSpec)) parserParenthesesUptoCard

/-- THE SECOND FORM's CARD OF 'exactppllaw09.ParserPrefix'. -/
def parserPrefixUptoCard : Claim7 := { stood := { row := parserPrefixUptoRow, standIns := [], harness := (true, "6ca0b693892fbc943eb33f15fdecf654b86a41446b45a363fa3f014fe567fda1"), looks := true }, kinds := [], alts := [], laidByText := true, laidKinds := [.listed, .data, .mapped], laidTests := true, laidLooks := .later }
def ParserPrefixUptoCardSaid : Prop := Claim7.holds Tryz.pinned (.plain (OpenSpec.upto parserPrefixSpec)) parserPrefixUptoCard

/-- THE SECOND FORM's CARD OF 'exactppllaw09.ParserBlanks'. -/
def parserBlanksUptoCard : Claim7 := { stood := { row := parserBlanksUptoRow, standIns := [], harness := (true, "6ca0b693892fbc943eb33f15fdecf654b86a41446b45a363fa3f014fe567fda1"), looks := true }, kinds := [], alts := [], laidByText := true, laidKinds := [.listed, .data, .mapped], laidTests := true, laidLooks := .later }
def ParserBlanksUptoCardSaid : Prop := Claim7.holds Tryz.pinned (.plain (OpenSpec.upto parserBlanksSpec)) parserBlanksUptoCard
end Rows
end Go.Proofs.YtenieameoojbjaaGreatDoor
