/-
  DERIVED. GIVEN WITH THE SEED: THE CARDS: each row of YtiidpicgdjjikaaGreatDoorRows.lean that lists a variable, with what it lists TIED to the program's text (the seventh form; the later family's looks); each row that meets fmt, with fmt's text TOLD by the authors' own Lean function (tested against real Go, not proved from fmt's source: count such statements apart). THE CARD IS WHAT COUNTS. Prove the row's statement (the work); the ties are given (YtiidpicgdjjikaaGreatDoorTie.lean); close each card by the builder's one call (the guide's Derived/Test/ToyasCard.lean, 'card_holds'). Laid BY PROGRAM, IN A SANDBOX (cutbox-door.mjs). By AI agents, Wed Nov 11 2026. No macro, syntax, notation, axiom, sorry.
-/
import Derived.Test.YtiidpicgdjjikaaGreatDoorRows
import GoSem.ClaimSeven
namespace Go.Proofs.YtiidpicgdjjikaaGreatDoor
namespace Rows

/-- THE TIED CARD OF 'numerarylaw14.ItemOf'. -/
def itemOfCard : Claim7 := { stood := { row := itemOfRow, standIns := [], harness := (true, "e1beb4bb8bc41cdd19175741e2b90ec133d99c4b474f7e9ab147ac4aa89fd402"), looks := true }, kinds := [], alts := [], laidByText := true, laidKinds := [.data, .data, .data, .data, .sentinel, .sentinel, .data, .data, .pinned, .pinned], laidTests := true, laidLooks := .later }
def ItemOfCardSaid : Prop := Claim7.holds Tryz.pinned (.plain (OpenSpec.ofChange itemOfSpec)) itemOfCard

/-- THE TIED CARD OF 'numerarylaw14.ItemMinutes'. -/
def itemMinutesCard : Claim7 := { stood := { row := itemMinutesRow, standIns := [], harness := (true, "e1beb4bb8bc41cdd19175741e2b90ec133d99c4b474f7e9ab147ac4aa89fd402"), looks := true }, kinds := [], alts := [], laidByText := true, laidKinds := [.data, .data, .data, .data, .sentinel, .sentinel, .data, .data, .pinned, .pinned], laidTests := true, laidLooks := .later }
def ItemMinutesCardSaid : Prop := Claim7.holds Tryz.pinned (.plain (OpenSpec.ofChange itemMinutesSpec)) itemMinutesCard

/-- THE TIED CARD OF 'numerarylaw14.ItemEqual'. -/
def itemEqualCard : Claim7 := { stood := { row := itemEqualRow, standIns := [], harness := (true, "e1beb4bb8bc41cdd19175741e2b90ec133d99c4b474f7e9ab147ac4aa89fd402"), looks := true }, kinds := [], alts := [], laidByText := true, laidKinds := [.data, .data, .data, .data, .sentinel, .sentinel, .data, .data, .pinned, .pinned], laidTests := true, laidLooks := .later }
def ItemEqualCardSaid : Prop := Claim7.holds Tryz.pinned (.plain (OpenSpec.ofChange itemEqualSpec)) itemEqualCard

/-- THE TIED CARD OF 'numerarylaw15.ParseAll'. -/
def parseAllCard : Claim7 := { stood := { row := parseAllRow, standIns := [], harness := (true, "e1beb4bb8bc41cdd19175741e2b90ec133d99c4b474f7e9ab147ac4aa89fd402"), looks := true }, kinds := [], alts := [], laidByText := true, laidKinds := [.data, .data, .data, .data, .sentinel, .sentinel, .data, .data, .pinned, .pinned], laidTests := true, laidLooks := .later }
def ParseAllCardSaid : Prop := Claim7.holds Tryz.pinned (.plain (OpenSpec.ofChange parseAllSpec)) parseAllCard

/-- THE TIED CARD OF 'numerarylaw15.ParseJoins'. -/
def parseJoinsCard : Claim7 := { stood := { row := parseJoinsRow, standIns := [], harness := (true, "e1beb4bb8bc41cdd19175741e2b90ec133d99c4b474f7e9ab147ac4aa89fd402"), looks := true }, kinds := [], alts := [], laidByText := true, laidKinds := [.data, .data, .data, .data, .sentinel, .sentinel, .data, .data, .pinned, .pinned], laidTests := true, laidLooks := .later }
def ParseJoinsCardSaid : Prop := Claim7.holds Tryz.pinned (.plain (OpenSpec.ofChange parseJoinsSpec)) parseJoinsCard

/-- THE TIED CARD OF 'numerarylaw15.ParseParts'. -/
def parsePartsCard : Claim7 := { stood := { row := parsePartsRow, standIns := [], harness := (true, "e1beb4bb8bc41cdd19175741e2b90ec133d99c4b474f7e9ab147ac4aa89fd402"), looks := true }, kinds := [], alts := [], laidByText := true, laidKinds := [.data, .data, .data, .data, .sentinel, .sentinel, .data, .data, .pinned, .pinned], laidTests := true, laidLooks := .later }
def ParsePartsCardSaid : Prop := Claim7.holds Tryz.pinned (.plain (OpenSpec.ofChange parsePartsSpec)) parsePartsCard

/-- THE TIED CARD OF 'numerarylaw15.ParseEqual'. -/
def parseEqualCard : Claim7 := { stood := { row := parseEqualRow, standIns := [], harness := (true, "e1beb4bb8bc41cdd19175741e2b90ec133d99c4b474f7e9ab147ac4aa89fd402"), looks := true }, kinds := [], alts := [], laidByText := true, laidKinds := [.data, .data, .data, .data, .sentinel, .sentinel, .data, .data, .pinned, .pinned], laidTests := true, laidLooks := .later }
def ParseEqualCardSaid : Prop := Claim7.holds Tryz.pinned (.plain (OpenSpec.ofChange parseEqualSpec)) parseEqualCard

/-- THE SECOND FORM's CARD OF 'numerarylaw14.ItemOf'. -/
def itemOfUptoCard : Claim7 := { stood := { row := itemOfUptoRow, standIns := [], harness := (true, "e1beb4bb8bc41cdd19175741e2b90ec133d99c4b474f7e9ab147ac4aa89fd402"), looks := true }, kinds := [], alts := [], laidByText := true, laidKinds := [.data, .data, .data, .data, .sentinel, .sentinel, .data, .data, .pinned, .pinned], laidTests := true, laidLooks := .later }
def ItemOfUptoCardSaid : Prop := Claim7.holds Tryz.pinned (.plain (OpenSpec.upto itemOfSpec)) itemOfUptoCard

/-- THE SECOND FORM's CARD OF 'numerarylaw14.ItemMinutes'. -/
def itemMinutesUptoCard : Claim7 := { stood := { row := itemMinutesUptoRow, standIns := [], harness := (true, "e1beb4bb8bc41cdd19175741e2b90ec133d99c4b474f7e9ab147ac4aa89fd402"), looks := true }, kinds := [], alts := [], laidByText := true, laidKinds := [.data, .data, .data, .data, .sentinel, .sentinel, .data, .data, .pinned, .pinned], laidTests := true, laidLooks := .later }
def ItemMinutesUptoCardSaid : Prop := Claim7.holds Tryz.pinned (.plain (OpenSpec.upto itemMinutesSpec)) itemMinutesUptoCard

/-- THE SECOND FORM's CARD OF 'numerarylaw14.ItemEqual'. -/
def itemEqualUptoCard : Claim7 := { stood := { row := itemEqualUptoRow, standIns := [], harness := (true, "e1beb4bb8bc41cdd19175741e2b90ec133d99c4b474f7e9ab147ac4aa89fd402"), looks := true }, kinds := [], alts := [], laidByText := true, laidKinds := [.data, .data, .data, .data, .sentinel, .sentinel, .data, .data, .pinned, .pinned], laidTests := true, laidLooks := .later }
def ItemEqualUptoCardSaid : Prop := Claim7.holds Tryz.pinned (.plain (OpenSpec.upto itemEqualSpec)) itemEqualUptoCard

/-- THE SECOND FORM's CARD OF 'numerarylaw15.ParseAll'. -/
def parseAllUptoCard : Claim7 := { stood := { row := parseAllUptoRow, standIns := [], harness := (true, "e1beb4bb8bc41cdd19175741e2b90ec133d99c4b474f7e9ab147ac4aa89fd402"), looks := true }, kinds := [], alts := [], laidByText := true, laidKinds := [.data, .data, .data, .data, .sentinel, .sentinel, .data, .data, .pinned, .pinned], laidTests := true, laidLooks := .later }
def ParseAllUptoCardSaid : Prop := Claim7.holds Tryz.pinned (.plain (OpenSpec.upto parseAllSpec)) parseAllUptoCard

/-- THE SECOND FORM's CARD OF 'numerarylaw15.ParseJoins'. -/
def parseJoinsUptoCard : Claim7 := { stood := { row := parseJoinsUptoRow, standIns := [], harness := (true, "e1beb4bb8bc41cdd19175741e2b90ec133d99c4b474f7e9ab147ac4aa89fd402"), looks := true }, kinds := [], alts := [], laidByText := true, laidKinds := [.data, .data, .data, .data, .sentinel, .sentinel, .data, .data, .pinned, .pinned], laidTests := true, laidLooks := .later }
def ParseJoinsUptoCardSaid : Prop := Claim7.holds Tryz.pinned (.plain (OpenSpec.upto parseJoinsSpec)) parseJoinsUptoCard

/-- THE SECOND FORM's CARD OF 'numerarylaw15.ParseParts'. -/
def parsePartsUptoCard : Claim7 := { stood := { row := parsePartsUptoRow, standIns := [], harness := (true, "e1beb4bb8bc41cdd19175741e2b90ec133d99c4b474f7e9ab147ac4aa89fd402"), looks := true }, kinds := [], alts := [], laidByText := true, laidKinds := [.data, .data, .data, .data, .sentinel, .sentinel, .data, .data, .pinned, .pinned], laidTests := true, laidLooks := .later }
def ParsePartsUptoCardSaid : Prop := Claim7.holds Tryz.pinned (.plain (OpenSpec.upto parsePartsSpec)) parsePartsUptoCard

/-- THE SECOND FORM's CARD OF 'numerarylaw15.ParseEqual'. -/
def parseEqualUptoCard : Claim7 := { stood := { row := parseEqualUptoRow, standIns := [], harness := (true, "e1beb4bb8bc41cdd19175741e2b90ec133d99c4b474f7e9ab147ac4aa89fd402"), looks := true }, kinds := [], alts := [], laidByText := true, laidKinds := [.data, .data, .data, .data, .sentinel, .sentinel, .data, .data, .pinned, .pinned], laidTests := true, laidLooks := .later }
def ParseEqualUptoCardSaid : Prop := Claim7.holds Tryz.pinned (.plain (OpenSpec.upto parseEqualSpec)) parseEqualUptoCard
end Rows
end Go.Proofs.YtiidpicgdjjikaaGreatDoor
