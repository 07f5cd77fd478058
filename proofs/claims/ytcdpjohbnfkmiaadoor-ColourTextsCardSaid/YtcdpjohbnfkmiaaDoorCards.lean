/-
  DERIVED. GIVEN WITH THE SEED: THE CARDS: each row of YtcdpjohbnfkmiaaDoorRows.lean that lists a variable, with what it lists TIED to the program's text (the seventh form; the later family's looks); each row that meets fmt, with fmt's text TOLD by the authors' own Lean function (tested against real Go, not proved from fmt's source: count such statements apart). THE CARD IS WHAT COUNTS. Prove the row's statement (the work); the ties are given (YtcdpjohbnfkmiaaDoorTie.lean); close each card by the builder's one call (the guide's Derived/Test/ToyasCard.lean, 'card_holds'). Laid BY PROGRAM, IN A SANDBOX (cutbox-door.mjs). By AI agents, Wed Nov 11 2026. No macro, syntax, notation, axiom, sorry.
-/
import Derived.Test.YtcdpjohbnfkmiaaDoorRows
import GoSem.ClaimSeven
namespace Go.Proofs.YtcdpjohbnfkmiaaDoor
namespace Rows

/-- THE TIED CARD OF 'numerarylaw12.ColourNames'. -/
def colourNamesCard : Claim7 := { stood := { row := colourNamesRow, standIns := [], harness := (true, "8372f247a5bb10c6d7909f781301a9470fe54783b2870a19e73d556c5e0ace4a"), looks := true }, kinds := [], alts := [], laidByText := true, laidKinds := [.data, .data, .data, .data, .sentinel, .sentinel, .data, .data, .pinned, .pinned], laidTests := true, laidLooks := .later }
def ColourNamesCardSaid : Prop := Claim7.holds Tryd.pinned (.plain (OpenSpec.ofChange colourNamesSpec)) colourNamesCard

/-- THE TIED CARD OF 'numerarylaw12.ColourTexts'. -/
def colourTextsCard : Claim7 := { stood := { row := colourTextsRow, standIns := [], harness := (true, "8372f247a5bb10c6d7909f781301a9470fe54783b2870a19e73d556c5e0ace4a"), looks := true }, kinds := [], alts := [], laidByText := true, laidKinds := [.data, .data, .data, .data, .sentinel, .sentinel, .data, .data, .pinned, .pinned], laidTests := true, laidLooks := .later }
def ColourTextsCardSaid : Prop := Claim7.holds Tryd.pinned (.plain (OpenSpec.ofChange colourTextsSpec)) colourTextsCard

/-- THE TIED CARD OF 'numerarylaw12.ColourBack'. -/
def colourBackCard : Claim7 := { stood := { row := colourBackRow, standIns := [], harness := (true, "8372f247a5bb10c6d7909f781301a9470fe54783b2870a19e73d556c5e0ace4a"), looks := true }, kinds := [], alts := [], laidByText := true, laidKinds := [.data, .data, .data, .data, .sentinel, .sentinel, .data, .data, .pinned, .pinned], laidTests := true, laidLooks := .later }
def ColourBackCardSaid : Prop := Claim7.holds Tryd.pinned (.plain (OpenSpec.ofChange colourBackSpec)) colourBackCard

/-- THE TIED CARD OF 'numerarylaw12.ColourApart'. -/
def colourApartCard : Claim7 := { stood := { row := colourApartRow, standIns := [], harness := (true, "8372f247a5bb10c6d7909f781301a9470fe54783b2870a19e73d556c5e0ace4a"), looks := true }, kinds := [], alts := [], laidByText := true, laidKinds := [.data, .data, .data, .data, .sentinel, .sentinel, .data, .data, .pinned, .pinned], laidTests := true, laidLooks := .later }
def ColourApartCardSaid : Prop := Claim7.holds Tryd.pinned (.plain (OpenSpec.ofChange colourApartSpec)) colourApartCard

/-- THE SECOND FORM's CARD OF 'numerarylaw12.ColourNames'. -/
def colourNamesUptoCard : Claim7 := { stood := { row := colourNamesUptoRow, standIns := [], harness := (true, "8372f247a5bb10c6d7909f781301a9470fe54783b2870a19e73d556c5e0ace4a"), looks := true }, kinds := [], alts := [], laidByText := true, laidKinds := [.data, .data, .data, .data, .sentinel, .sentinel, .data, .data, .pinned, .pinned], laidTests := true, laidLooks := .later }
def ColourNamesUptoCardSaid : Prop := Claim7.holds Tryd.pinned (.plain (OpenSpec.upto colourNamesSpec)) colourNamesUptoCard

/-- THE SECOND FORM's CARD OF 'numerarylaw12.ColourTexts'. -/
def colourTextsUptoCard : Claim7 := { stood := { row := colourTextsUptoRow, standIns := [], harness := (true, "8372f247a5bb10c6d7909f781301a9470fe54783b2870a19e73d556c5e0ace4a"), looks := true }, kinds := [], alts := [], laidByText := true, laidKinds := [.data, .data, .data, .data, .sentinel, .sentinel, .data, .data, .pinned, .pinned], laidTests := true, laidLooks := .later }
def ColourTextsUptoCardSaid : Prop := Claim7.holds Tryd.pinned (.plain (OpenSpec.upto colourTextsSpec)) colourTextsUptoCard

/-- THE SECOND FORM's CARD OF 'numerarylaw12.ColourBack'. -/
def colourBackUptoCard : Claim7 := { stood := { row := colourBackUptoRow, standIns := [], harness := (true, "8372f247a5bb10c6d7909f781301a9470fe54783b2870a19e73d556c5e0ace4a"), looks := true }, kinds := [], alts := [], laidByText := true, laidKinds := [.data, .data, .data, .data, .sentinel, .sentinel, .data, .data, .pinned, .pinned], laidTests := true, laidLooks := .later }
def ColourBackUptoCardSaid : Prop := Claim7.holds Tryd.pinned (.plain (OpenSpec.upto colourBackSpec)) colourBackUptoCard

/-- THE SECOND FORM's CARD OF 'numerarylaw12.ColourApart'. -/
def colourApartUptoCard : Claim7 := { stood := { row := colourApartUptoRow, standIns := [], harness := (true, "8372f247a5bb10c6d7909f781301a9470fe54783b2870a19e73d556c5e0ace4a"), looks := true }, kinds := [], alts := [], laidByText := true, laidKinds := [.data, .data, .data, .data, .sentinel, .sentinel, .data, .data, .pinned, .pinned], laidTests := true, laidLooks := .later }
def ColourApartUptoCardSaid : Prop := Claim7.holds Tryd.pinned (.plain (OpenSpec.upto colourApartSpec)) colourApartUptoCard
end Rows
end Go.Proofs.YtcdpjohbnfkmiaaDoor
