/-
  DERIVED. GIVEN WITH THE SEED: THE CARDS: each row of YtogponhonjiidaaDoorRows.lean that lists a variable, with what it lists TIED to the program's text (the seventh form; the later family's looks); each row that meets fmt, with fmt's text TOLD by the authors' own Lean function (tested against real Go, not proved from fmt's source: count such statements apart). THE CARD IS WHAT COUNTS. Prove the row's statement (the work); the ties are given (YtogponhonjiidaaDoorTie.lean); close each card by the builder's one call (the guide's Derived/Test/ToyasCard.lean, 'card_holds'). Laid BY PROGRAM, IN A SANDBOX (cutbox-door.mjs). By AI agents, Wed Nov 11 2026. No macro, syntax, notation, axiom, sorry.
-/
import Derived.Test.YtogponhonjiidaaDoorRows
import GoSem.ClaimSeven
namespace Go.Proofs.YtogponhonjiidaaDoor
namespace Rows

/-- THE TIED CARD OF 'semtypelaw26.TokenPieces'. -/
def tokenPiecesCard : Claim7 := { stood := { row := tokenPiecesRow, standIns := [], harness := (true, "927c2bea3ae6707bd437eb7d6dd62ad1007a5147e4b3ec1081c088a98f8744b3"), looks := true }, kinds := [], alts := [], laidByText := true, laidKinds := [.data, .data, .data, .sentinel, .sentinel, .sentinel, .data], laidTests := true, laidLooks := .later }
def TokenPiecesCardSaid : Prop := Claim7.holds Tryd.pinned (.plain (OpenSpec.ofChange tokenPiecesSpec)) tokenPiecesCard

/-- THE TIED CARD OF 'semtypelaw26.TokenSpans'. -/
def tokenSpansCard : Claim7 := { stood := { row := tokenSpansRow, standIns := [], harness := (true, "927c2bea3ae6707bd437eb7d6dd62ad1007a5147e4b3ec1081c088a98f8744b3"), looks := true }, kinds := [], alts := [], laidByText := true, laidKinds := [.data, .data, .data, .sentinel, .sentinel, .sentinel, .data], laidTests := true, laidLooks := .later }
def TokenSpansCardSaid : Prop := Claim7.holds Tryd.pinned (.plain (OpenSpec.ofChange tokenSpansSpec)) tokenSpansCard

/-- THE TIED CARD OF 'semtypelaw26.TokenSeparators'. -/
def tokenSeparatorsCard : Claim7 := { stood := { row := tokenSeparatorsRow, standIns := [], harness := (true, "927c2bea3ae6707bd437eb7d6dd62ad1007a5147e4b3ec1081c088a98f8744b3"), looks := true }, kinds := [], alts := [], laidByText := true, laidKinds := [.data, .data, .data, .sentinel, .sentinel, .sentinel, .data], laidTests := true, laidLooks := .later }
def TokenSeparatorsCardSaid : Prop := Claim7.holds Tryd.pinned (.plain (OpenSpec.ofChange tokenSeparatorsSpec)) tokenSeparatorsCard

/-- THE TIED CARD OF 'semtypelaw26.TokenLimits'. -/
def tokenLimitsCard : Claim7 := { stood := { row := tokenLimitsRow, standIns := [], harness := (true, "927c2bea3ae6707bd437eb7d6dd62ad1007a5147e4b3ec1081c088a98f8744b3"), looks := true }, kinds := [], alts := [], laidByText := true, laidKinds := [.data, .data, .data, .sentinel, .sentinel, .sentinel, .data], laidTests := true, laidLooks := .later }
def TokenLimitsCardSaid : Prop := Claim7.holds Tryd.pinned (.plain (OpenSpec.ofChange tokenLimitsSpec)) tokenLimitsCard

/-- THE TIED CARD OF 'semtypelaw26.TokenReserved'. -/
def tokenReservedCard : Claim7 := { stood := { row := tokenReservedRow, standIns := [], harness := (true, "927c2bea3ae6707bd437eb7d6dd62ad1007a5147e4b3ec1081c088a98f8744b3"), looks := true }, kinds := [], alts := [], laidByText := true, laidKinds := [.data, .data, .data, .sentinel, .sentinel, .sentinel, .data], laidTests := true, laidLooks := .later }
def TokenReservedCardSaid : Prop := Claim7.holds Tryd.pinned (.plain (OpenSpec.ofChange tokenReservedSpec)) tokenReservedCard

/-- THE TIED CARD OF 'semtypelaw26.TokenTexts'. -/
def tokenTextsCard : Claim7 := { stood := { row := tokenTextsRow, standIns := [], harness := (true, "927c2bea3ae6707bd437eb7d6dd62ad1007a5147e4b3ec1081c088a98f8744b3"), looks := true }, kinds := [], alts := [], laidByText := true, laidKinds := [.data, .data, .data, .sentinel, .sentinel, .sentinel, .data], laidTests := true, laidLooks := .later }
def TokenTextsCardSaid : Prop := Claim7.holds Tryd.pinned (.plain (OpenSpec.ofChange tokenTextsSpec)) tokenTextsCard

/-- THE SECOND FORM's CARD OF 'semtypelaw26.TokenPieces'. -/
def tokenPiecesUptoCard : Claim7 := { stood := { row := tokenPiecesUptoRow, standIns := [], harness := (true, "927c2bea3ae6707bd437eb7d6dd62ad1007a5147e4b3ec1081c088a98f8744b3"), looks := true }, kinds := [], alts := [], laidByText := true, laidKinds := [.data, .data, .data, .sentinel, .sentinel, .sentinel, .data], laidTests := true, laidLooks := .later }
def TokenPiecesUptoCardSaid : Prop := Claim7.holds Tryd.pinned (.plain (OpenSpec.upto tokenPiecesSpec)) tokenPiecesUptoCard

/-- THE SECOND FORM's CARD OF 'semtypelaw26.TokenSpans'. -/
def tokenSpansUptoCard : Claim7 := { stood := { row := tokenSpansUptoRow, standIns := [], harness := (true, "927c2bea3ae6707bd437eb7d6dd62ad1007a5147e4b3ec1081c088a98f8744b3"), looks := true }, kinds := [], alts := [], laidByText := true, laidKinds := [.data, .data, .data, .sentinel, .sentinel, .sentinel, .data], laidTests := true, laidLooks := .later }
def TokenSpansUptoCardSaid : Prop := Claim7.holds Tryd.pinned (.plain (OpenSpec.upto tokenSpansSpec)) tokenSpansUptoCard

/-- THE SECOND FORM's CARD OF 'semtypelaw26.TokenSeparators'. -/
def tokenSeparatorsUptoCard : Claim7 := { stood := { row := tokenSeparatorsUptoRow, standIns := [], harness := (true, "927c2bea3ae6707bd437eb7d6dd62ad1007a5147e4b3ec1081c088a98f8744b3"), looks := true }, kinds := [], alts := [], laidByText := true, laidKinds := [.data, .data, .data, .sentinel, .sentinel, .sentinel, .data], laidTests := true, laidLooks := .later }
def TokenSeparatorsUptoCardSaid : Prop := Claim7.holds Tryd.pinned (.plain (OpenSpec.upto tokenSeparatorsSpec)) tokenSeparatorsUptoCard

/-- THE SECOND FORM's CARD OF 'semtypelaw26.TokenLimits'. -/
def tokenLimitsUptoCard : Claim7 := { stood := { row := tokenLimitsUptoRow, standIns := [], harness := (true, "927c2bea3ae6707bd437eb7d6dd62ad1007a5147e4b3ec1081c088a98f8744b3"), looks := true }, kinds := [], alts := [], laidByText := true, laidKinds := [.data, .data, .data, .sentinel, .sentinel, .sentinel, .data], laidTests := true, laidLooks := .later }
def TokenLimitsUptoCardSaid : Prop := Claim7.holds Tryd.pinned (.plain (OpenSpec.upto tokenLimitsSpec)) tokenLimitsUptoCard

/-- THE SECOND FORM's CARD OF 'semtypelaw26.TokenReserved'. -/
def tokenReservedUptoCard : Claim7 := { stood := { row := tokenReservedUptoRow, standIns := [], harness := (true, "927c2bea3ae6707bd437eb7d6dd62ad1007a5147e4b3ec1081c088a98f8744b3"), looks := true }, kinds := [], alts := [], laidByText := true, laidKinds := [.data, .data, .data, .sentinel, .sentinel, .sentinel, .data], laidTests := true, laidLooks := .later }
def TokenReservedUptoCardSaid : Prop := Claim7.holds Tryd.pinned (.plain (OpenSpec.upto tokenReservedSpec)) tokenReservedUptoCard

/-- THE SECOND FORM's CARD OF 'semtypelaw26.TokenTexts'. -/
def tokenTextsUptoCard : Claim7 := { stood := { row := tokenTextsUptoRow, standIns := [], harness := (true, "927c2bea3ae6707bd437eb7d6dd62ad1007a5147e4b3ec1081c088a98f8744b3"), looks := true }, kinds := [], alts := [], laidByText := true, laidKinds := [.data, .data, .data, .sentinel, .sentinel, .sentinel, .data], laidTests := true, laidLooks := .later }
def TokenTextsUptoCardSaid : Prop := Claim7.holds Tryd.pinned (.plain (OpenSpec.upto tokenTextsSpec)) tokenTextsUptoCard
end Rows
end Go.Proofs.YtogponhonjiidaaDoor
