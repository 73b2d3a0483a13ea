/-
  DERIVED. GIVEN WITH THE SEED: THE CARDS: each row of YtednoahjadghnaaDoorRows.lean that lists a variable, with what it lists TIED to the program's text (the seventh form; the later family's looks); each row that meets fmt, with fmt's text TOLD by the authors' own Lean function (tested against real Go, not proved from fmt's source: count such statements apart). THE CARD IS WHAT COUNTS. Prove the row's statement (the work); the ties are given (YtednoahjadghnaaDoorTie.lean); close each card by the builder's one call (the guide's Derived/Test/ToyasCard.lean, 'card_holds'). Laid BY PROGRAM, IN A SANDBOX (cutbox-door.mjs). By AI agents, Wed Nov 11 2026. No macro, syntax, notation, axiom, sorry.
-/
import Derived.Test.YtednoahjadghnaaDoorRows
import GoSem.ClaimSeven
namespace Go.Proofs.YtednoahjadghnaaDoor
namespace Rows

/-- THE TIED CARD OF 'exactppllaw08.LexerRaw'. -/
def lexerRawCard : Claim7 := { stood := { row := lexerRawRow, standIns := [], harness := (true, "3defdfaf651378bbed78059651e1cc894fb5891b5cc3744781b2ad9ca29d7a04"), looks := false }, kinds := [], alts := [], laidByText := true, laidKinds := [.listed, .data], laidTests := true, laidLooks := .later }
def LexerRawCardSaid : Prop := Claim7.holds Tryd.pinned (.plain (OpenSpec.ofChange lexerRawSpec)) lexerRawCard

/-- THE TIED CARD OF 'exactppllaw08.LexerBuilt'. -/
def lexerBuiltCard : Claim7 := { stood := { row := lexerBuiltRow, standIns := [], harness := (true, "3defdfaf651378bbed78059651e1cc894fb5891b5cc3744781b2ad9ca29d7a04"), looks := false }, kinds := [], alts := [], laidByText := true, laidKinds := [.listed, .data], laidTests := true, laidLooks := .later }
def LexerBuiltCardSaid : Prop := Claim7.holds Tryd.pinned (.plain (OpenSpec.ofChange lexerBuiltSpec)) lexerBuiltCard

/-- THE TIED CARD OF 'exactppllaw08.LexerPlaces'. -/
def lexerPlacesCard : Claim7 := { stood := { row := lexerPlacesRow, standIns := [], harness := (true, "3defdfaf651378bbed78059651e1cc894fb5891b5cc3744781b2ad9ca29d7a04"), looks := false }, kinds := [], alts := [], laidByText := true, laidKinds := [.listed, .data], laidTests := true, laidLooks := .later }
def LexerPlacesCardSaid : Prop := Claim7.holds Tryd.pinned (.plain (OpenSpec.ofChange lexerPlacesSpec)) lexerPlacesCard

/-- THE TIED CARD OF 'exactppllaw08.LexerBlanks'. -/
def lexerBlanksCard : Claim7 := { stood := { row := lexerBlanksRow, standIns := [], harness := (true, "3defdfaf651378bbed78059651e1cc894fb5891b5cc3744781b2ad9ca29d7a04"), looks := false }, kinds := [], alts := [], laidByText := true, laidKinds := [.listed, .data], laidTests := true, laidLooks := .later }
def LexerBlanksCardSaid : Prop := Claim7.holds Tryd.pinned (.plain (OpenSpec.ofChange lexerBlanksSpec)) lexerBlanksCard

/-- THE TIED CARD OF 'exactppllaw08.LexerLimits'. -/
def lexerLimitsCard : Claim7 := { stood := { row := lexerLimitsRow, standIns := [], harness := (true, "3defdfaf651378bbed78059651e1cc894fb5891b5cc3744781b2ad9ca29d7a04"), looks := false }, kinds := [], alts := [], laidByText := true, laidKinds := [.listed, .data], laidTests := true, laidLooks := .later }
def LexerLimitsCardSaid : Prop := Claim7.holds Tryd.pinned (.plain (OpenSpec.ofChange lexerLimitsSpec)) lexerLimitsCard

/-- THE SECOND FORM's CARD OF 'exactppllaw08.LexerRaw'. -/
def lexerRawUptoCard : Claim7 := { stood := { row := lexerRawUptoRow, standIns := [], harness := (true, "3defdfaf651378bbed78059651e1cc894fb5891b5cc3744781b2ad9ca29d7a04"), looks := false }, kinds := [], alts := [], laidByText := true, laidKinds := [.listed, .data], laidTests := true, laidLooks := .later }
def LexerRawUptoCardSaid : Prop := Claim7.holds Tryd.pinned (.plain (OpenSpec.upto lexerRawSpec)) lexerRawUptoCard

/-- THE SECOND FORM's CARD OF 'exactppllaw08.LexerBuilt'. -/
def lexerBuiltUptoCard : Claim7 := { stood := { row := lexerBuiltUptoRow, standIns := [], harness := (true, "3defdfaf651378bbed78059651e1cc894fb5891b5cc3744781b2ad9ca29d7a04"), looks := false }, kinds := [], alts := [], laidByText := true, laidKinds := [.listed, .data], laidTests := true, laidLooks := .later }
def LexerBuiltUptoCardSaid : Prop := Claim7.holds Tryd.pinned (.plain (OpenSpec.upto lexerBuiltSpec)) lexerBuiltUptoCard

/-- THE SECOND FORM's CARD OF 'exactppllaw08.LexerPlaces'. -/
def lexerPlacesUptoCard : Claim7 := { stood := { row := lexerPlacesUptoRow, standIns := [], harness := (true, "3defdfaf651378bbed78059651e1cc894fb5891b5cc3744781b2ad9ca29d7a04"), looks := false }, kinds := [], alts := [], laidByText := true, laidKinds := [.listed, .data], laidTests := true, laidLooks := .later }
def LexerPlacesUptoCardSaid : Prop := Claim7.holds Tryd.pinned (.plain (OpenSpec.upto lexerPlacesSpec)) lexerPlacesUptoCard

/-- THE SECOND FORM's CARD OF 'exactppllaw08.LexerBlanks'. -/
def lexerBlanksUptoCard : Claim7 := { stood := { row := lexerBlanksUptoRow, standIns := [], harness := (true, "3defdfaf651378bbed78059651e1cc894fb5891b5cc3744781b2ad9ca29d7a04"), looks := false }, kinds := [], alts := [], laidByText := true, laidKinds := [.listed, .data], laidTests := true, laidLooks := .later }
def LexerBlanksUptoCardSaid : Prop := Claim7.holds Tryd.pinned (.plain (OpenSpec.upto lexerBlanksSpec)) lexerBlanksUptoCard

/-- THE SECOND FORM's CARD OF 'exactppllaw08.LexerLimits'. -/
def lexerLimitsUptoCard : Claim7 := { stood := { row := lexerLimitsUptoRow, standIns := [], harness := (true, "3defdfaf651378bbed78059651e1cc894fb5891b5cc3744781b2ad9ca29d7a04"), looks := false }, kinds := [], alts := [], laidByText := true, laidKinds := [.listed, .data], laidTests := true, laidLooks := .later }
def LexerLimitsUptoCardSaid : Prop := Claim7.holds Tryd.pinned (.plain (OpenSpec.upto lexerLimitsSpec)) lexerLimitsUptoCard
end Rows
end Go.Proofs.YtednoahjadghnaaDoor
