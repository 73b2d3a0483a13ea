/-
  DERIVED. GIVEN WITH THE SEED: THE CARDS: each row of YtenieameoojbjaaDoorRows.lean that lists a variable, with what it lists TIED to the program's text (the seventh form; the later family's looks); each row that meets fmt, with fmt's text TOLD by the authors' own Lean function (tested against real Go, not proved from fmt's source: count such statements apart). THE CARD IS WHAT COUNTS. Prove the row's statement (the work); the ties are given (YtenieameoojbjaaDoorTie.lean); close each card by the builder's one call (the guide's Derived/Test/ToyasCard.lean, 'card_holds'). Laid BY PROGRAM, IN A SANDBOX (cutbox-door.mjs). By AI agents, Wed Nov 11 2026. No macro, syntax, notation, axiom, sorry.
-/
import Derived.Test.YtenieameoojbjaaDoorRows
import GoSem.ClaimSeven
namespace Go.Proofs.YtenieameoojbjaaDoor
namespace Rows

/-- THE TIED CARD OF 'exactppllaw09.ParserPrecedence'. -/
def parserPrecedenceCard : Claim7 := { stood := { row := parserPrecedenceRow, standIns := [], harness := (true, "12b65a28d8bb52b76e4afbfa1fa87ebd8521f5ce21ec11f4ecdf09f694204188"), looks := true }, kinds := [], alts := [], laidByText := true, laidKinds := [.listed, .data, .mapped], laidTests := true, laidLooks := .later }
def ParserPrecedenceCardSaid : Prop := Claim7.holds Tryd.pinned (.plain (OpenSpec.ofChange parserPrecedenceSpec)) parserPrecedenceCard

/-- THE TIED CARD OF 'exactppllaw09.ParserDepth'. -/
def parserDepthCard : Claim7 := { stood := { row := parserDepthRow, standIns := [], harness := (true, "12b65a28d8bb52b76e4afbfa1fa87ebd8521f5ce21ec11f4ecdf09f694204188"), looks := true }, kinds := [], alts := [], laidByText := true, laidKinds := [.listed, .data, .mapped], laidTests := true, laidLooks := .later }
def ParserDepthCardSaid : Prop := Claim7.holds Tryd.pinned (.plain (OpenSpec.ofChange parserDepthSpec)) parserDepthCard

/-- THE SECOND FORM's CARD OF 'exactppllaw09.ParserPrecedence'. -/
def parserPrecedenceUptoCard : Claim7 := { stood := { row := parserPrecedenceUptoRow, standIns := [], harness := (true, "12b65a28d8bb52b76e4afbfa1fa87ebd8521f5ce21ec11f4ecdf09f694204188"), looks := true }, kinds := [], alts := [], laidByText := true, laidKinds := [.listed, .data, .mapped], laidTests := true, laidLooks := .later }
def ParserPrecedenceUptoCardSaid : Prop := Claim7.holds Tryd.pinned (.plain (OpenSpec.upto parserPrecedenceSpec)) parserPrecedenceUptoCard

/-- THE SECOND FORM's CARD OF 'exactppllaw09.ParserDepth'. -/
def parserDepthUptoCard : Claim7 := { stood := { row := parserDepthUptoRow, standIns := [], harness := (true, "12b65a28d8bb52b76e4afbfa1fa87ebd8521f5ce21ec11f4ecdf09f694204188"), looks := true }, kinds := [], alts := [], laidByText := true, laidKinds := [.listed, .data, .mapped], laidTests := true, laidLooks := .later }
def ParserDepthUptoCardSaid : Prop := Claim7.holds Tryd.pinned (.plain (OpenSpec.upto parserDepthSpec)) parserDepthUptoCard
end Rows
end Go.Proofs.YtenieameoojbjaaDoor
