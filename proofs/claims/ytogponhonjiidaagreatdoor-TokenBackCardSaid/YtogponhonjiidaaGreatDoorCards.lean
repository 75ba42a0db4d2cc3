/-
  DERIVED. GIVEN WITH THE SEED: THE CARDS: each row of YtogponhonjiidaaGreatDoorRows.lean that lists a variable, with what it lists TIED to the program's text (the seventh form; the later family's looks); each row that meets fmt, with fmt's text TOLD by the authors' own Lean function (tested against real Go, not proved from fmt's source: count such statements apart). THE CARD IS WHAT COUNTS. Prove the row's statement (the work); the ties are given (YtogponhonjiidaaGreatDoorTie.lean); close each card by the builder's one call (the guide's Derived/Test/ToyasCard.lean, 'card_holds'). Laid BY PROGRAM, IN A SANDBOX (cutbox-door.mjs). By AI agents, Wed Nov 11 2026. No macro, syntax, notation, axiom, sorry.
-/
import Derived.Test.YtogponhonjiidaaGreatDoorRows
import GoSem.ClaimSeven
namespace Go.Proofs.YtogponhonjiidaaGreatDoor
namespace Rows

/-- THE TIED CARD OF 'semtypelaw26.TokenScans'. -/
def tokenScansCard : Claim7 := { stood := { row := tokenScansRow, standIns := [], harness := (true, "1c761a8a2bb47b03901d895fa98ab5b87cf8f35c70348c7471f43bac7b813c0d"), looks := true }, kinds := [], alts := [], laidByText := true, laidKinds := [.data, .data, .data, .sentinel, .sentinel, .sentinel, .data], laidTests := true, laidLooks := .later }
def TokenScansCardSaid : Prop := Claim7.holds Tryz.pinned (.plain (OpenSpec.ofChange tokenScansSpec)) tokenScansCard

/-- THE TIED CARD OF 'semtypelaw26.TokenBack'. -/
def tokenBackCard : Claim7 := { stood := { row := tokenBackRow, standIns := [], harness := (true, "1c761a8a2bb47b03901d895fa98ab5b87cf8f35c70348c7471f43bac7b813c0d"), looks := true }, kinds := [], alts := [], laidByText := true, laidKinds := [.data, .data, .data, .sentinel, .sentinel, .sentinel, .data], laidTests := true, laidLooks := .later }
def TokenBackCardSaid : Prop := Claim7.holds Tryz.pinned (.plain (OpenSpec.ofChange tokenBackSpec)) tokenBackCard

/-- THE SECOND FORM's CARD OF 'semtypelaw26.TokenScans'. -/
def tokenScansUptoCard : Claim7 := { stood := { row := tokenScansUptoRow, standIns := [], harness := (true, "1c761a8a2bb47b03901d895fa98ab5b87cf8f35c70348c7471f43bac7b813c0d"), looks := true }, kinds := [], alts := [], laidByText := true, laidKinds := [.data, .data, .data, .sentinel, .sentinel, .sentinel, .data], laidTests := true, laidLooks := .later }
def TokenScansUptoCardSaid : Prop := Claim7.holds Tryz.pinned (.plain (OpenSpec.upto tokenScansSpec)) tokenScansUptoCard

/-- THE SECOND FORM's CARD OF 'semtypelaw26.TokenBack'. -/
def tokenBackUptoCard : Claim7 := { stood := { row := tokenBackUptoRow, standIns := [], harness := (true, "1c761a8a2bb47b03901d895fa98ab5b87cf8f35c70348c7471f43bac7b813c0d"), looks := true }, kinds := [], alts := [], laidByText := true, laidKinds := [.data, .data, .data, .sentinel, .sentinel, .sentinel, .data], laidTests := true, laidLooks := .later }
def TokenBackUptoCardSaid : Prop := Claim7.holds Tryz.pinned (.plain (OpenSpec.upto tokenBackSpec)) tokenBackUptoCard
end Rows
end Go.Proofs.YtogponhonjiidaaGreatDoor
