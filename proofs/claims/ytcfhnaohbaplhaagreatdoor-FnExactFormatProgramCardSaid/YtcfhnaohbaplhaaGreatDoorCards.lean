/-
  DERIVED. GIVEN WITH THE SEED: THE CARDS: each row of YtcfhnaohbaplhaaGreatDoorRows.lean that lists a variable, with what it lists TIED to the program's text (the seventh form; the later family's looks); each row that meets fmt, with fmt's text TOLD by the authors' own Lean function (tested against real Go, not proved from fmt's source: count such statements apart). THE CARD IS WHAT COUNTS. Prove the row's statement (the work); the ties are given (YtcfhnaohbaplhaaGreatDoorTie.lean); close each card by the builder's one call (the guide's Derived/Test/ToyasCard.lean, 'card_holds'). Laid BY PROGRAM, IN A SANDBOX (cutbox-door.mjs). By AI agents, Wed Nov 11 2026. No macro, syntax, notation, axiom, sorry.
-/
import Derived.Test.YtcfhnaohbaplhaaGreatDoorRows
import GoSem.ClaimSeven
namespace Go.Proofs.YtcfhnaohbaplhaaGreatDoor
namespace Rows

/-- THE TIED CARD OF 'laws.FnExactFormatExpr'. -/
def fnExactFormatExprCard : Claim7 := { stood := { row := fnExactFormatExprRow, standIns := [], harness := (true, "6b00631f006e200582a8c20a97a8d6c94f481ae2b92569db8a0f83fe40d47c65"), looks := true }, kinds := [], alts := [], laidByText := true, laidKinds := [.data, .data, .data], laidTests := true, laidLooks := .later }
def FnExactFormatExprCardSaid : Prop := Claim7.holds Tryz.pinned (.plain (OpenSpec.ofChange fnExactFormatExprSpec)) fnExactFormatExprCard

/-- THE TIED CARD OF 'laws.FnExactFormatPackage'. -/
def fnExactFormatPackageCard : Claim7 := { stood := { row := fnExactFormatPackageRow, standIns := [], harness := (true, "6b00631f006e200582a8c20a97a8d6c94f481ae2b92569db8a0f83fe40d47c65"), looks := true }, kinds := [], alts := [], laidByText := true, laidKinds := [.data, .data, .data], laidTests := true, laidLooks := .later }
def FnExactFormatPackageCardSaid : Prop := Claim7.holds Tryz.pinned (.plain (OpenSpec.ofChange fnExactFormatPackageSpec)) fnExactFormatPackageCard

/-- THE TIED CARD OF 'laws.FnExactFormatProgram'. -/
def fnExactFormatProgramCard : Claim7 := { stood := { row := fnExactFormatProgramRow, standIns := [], harness := (true, "6b00631f006e200582a8c20a97a8d6c94f481ae2b92569db8a0f83fe40d47c65"), looks := true }, kinds := [], alts := [], laidByText := true, laidKinds := [.data, .data, .data], laidTests := true, laidLooks := .later }
def FnExactFormatProgramCardSaid : Prop := Claim7.holds Tryz.pinned (.plain (OpenSpec.ofChange fnExactFormatProgramSpec)) fnExactFormatProgramCard

/-- THE TIED CARD OF 'laws.FnExactSExprToPackage'. -/
def fnExactSExprToPackageCard : Claim7 := { stood := { row := fnExactSExprToPackageRow, standIns := [], harness := (true, "6b00631f006e200582a8c20a97a8d6c94f481ae2b92569db8a0f83fe40d47c65"), looks := true }, kinds := [], alts := [], laidByText := true, laidKinds := [.data, .data, .data, .sentinel, .sentinel], laidTests := true, laidLooks := .later }
def FnExactSExprToPackageCardSaid : Prop := Claim7.holds Tryz.pinned (.plain (OpenSpec.ofChange fnExactSExprToPackageSpec)) fnExactSExprToPackageCard

/-- THE TIED CARD OF 'laws.FnExactParseExpr'. -/
def fnExactParseExprCard : Claim7 := { stood := { row := fnExactParseExprRow, standIns := [], harness := (true, "6b00631f006e200582a8c20a97a8d6c94f481ae2b92569db8a0f83fe40d47c65"), looks := true }, kinds := [], alts := [], laidByText := true, laidKinds := [.data, .data, .data, .sentinel, .sentinel], laidTests := true, laidLooks := .later }
def FnExactParseExprCardSaid : Prop := Claim7.holds Tryz.pinned (.plain (OpenSpec.ofChange fnExactParseExprSpec)) fnExactParseExprCard

/-- THE TIED CARD OF 'laws.FnExactParsePackage'. -/
def fnExactParsePackageCard : Claim7 := { stood := { row := fnExactParsePackageRow, standIns := [], harness := (true, "6b00631f006e200582a8c20a97a8d6c94f481ae2b92569db8a0f83fe40d47c65"), looks := true }, kinds := [], alts := [], laidByText := true, laidKinds := [.data, .data, .data, .sentinel, .sentinel], laidTests := true, laidLooks := .later }
def FnExactParsePackageCardSaid : Prop := Claim7.holds Tryz.pinned (.plain (OpenSpec.ofChange fnExactParsePackageSpec)) fnExactParsePackageCard

/-- THE SECOND FORM's CARD OF 'laws.FnExactFormatExpr'. -/
def fnExactFormatExprUptoCard : Claim7 := { stood := { row := fnExactFormatExprUptoRow, standIns := [], harness := (true, "6b00631f006e200582a8c20a97a8d6c94f481ae2b92569db8a0f83fe40d47c65"), looks := true }, kinds := [], alts := [], laidByText := true, laidKinds := [.data, .data, .data], laidTests := true, laidLooks := .later }
def FnExactFormatExprUptoCardSaid : Prop := Claim7.holds Tryz.pinned (.plain (OpenSpec.upto fnExactFormatExprSpec)) fnExactFormatExprUptoCard

/-- THE SECOND FORM's CARD OF 'laws.FnExactFormatPackage'. -/
def fnExactFormatPackageUptoCard : Claim7 := { stood := { row := fnExactFormatPackageUptoRow, standIns := [], harness := (true, "6b00631f006e200582a8c20a97a8d6c94f481ae2b92569db8a0f83fe40d47c65"), looks := true }, kinds := [], alts := [], laidByText := true, laidKinds := [.data, .data, .data], laidTests := true, laidLooks := .later }
def FnExactFormatPackageUptoCardSaid : Prop := Claim7.holds Tryz.pinned (.plain (OpenSpec.upto fnExactFormatPackageSpec)) fnExactFormatPackageUptoCard

/-- THE SECOND FORM's CARD OF 'laws.FnExactFormatProgram'. -/
def fnExactFormatProgramUptoCard : Claim7 := { stood := { row := fnExactFormatProgramUptoRow, standIns := [], harness := (true, "6b00631f006e200582a8c20a97a8d6c94f481ae2b92569db8a0f83fe40d47c65"), looks := true }, kinds := [], alts := [], laidByText := true, laidKinds := [.data, .data, .data], laidTests := true, laidLooks := .later }
def FnExactFormatProgramUptoCardSaid : Prop := Claim7.holds Tryz.pinned (.plain (OpenSpec.upto fnExactFormatProgramSpec)) fnExactFormatProgramUptoCard

/-- THE SECOND FORM's CARD OF 'laws.FnExactSExprToPackage'. -/
def fnExactSExprToPackageUptoCard : Claim7 := { stood := { row := fnExactSExprToPackageUptoRow, standIns := [], harness := (true, "6b00631f006e200582a8c20a97a8d6c94f481ae2b92569db8a0f83fe40d47c65"), looks := true }, kinds := [], alts := [], laidByText := true, laidKinds := [.data, .data, .data, .sentinel, .sentinel], laidTests := true, laidLooks := .later }
def FnExactSExprToPackageUptoCardSaid : Prop := Claim7.holds Tryz.pinned (.plain (OpenSpec.upto fnExactSExprToPackageSpec)) fnExactSExprToPackageUptoCard

/-- THE SECOND FORM's CARD OF 'laws.FnExactParseExpr'. -/
def fnExactParseExprUptoCard : Claim7 := { stood := { row := fnExactParseExprUptoRow, standIns := [], harness := (true, "6b00631f006e200582a8c20a97a8d6c94f481ae2b92569db8a0f83fe40d47c65"), looks := true }, kinds := [], alts := [], laidByText := true, laidKinds := [.data, .data, .data, .sentinel, .sentinel], laidTests := true, laidLooks := .later }
def FnExactParseExprUptoCardSaid : Prop := Claim7.holds Tryz.pinned (.plain (OpenSpec.upto fnExactParseExprSpec)) fnExactParseExprUptoCard

/-- THE SECOND FORM's CARD OF 'laws.FnExactParsePackage'. -/
def fnExactParsePackageUptoCard : Claim7 := { stood := { row := fnExactParsePackageUptoRow, standIns := [], harness := (true, "6b00631f006e200582a8c20a97a8d6c94f481ae2b92569db8a0f83fe40d47c65"), looks := true }, kinds := [], alts := [], laidByText := true, laidKinds := [.data, .data, .data, .sentinel, .sentinel], laidTests := true, laidLooks := .later }
def FnExactParsePackageUptoCardSaid : Prop := Claim7.holds Tryz.pinned (.plain (OpenSpec.upto fnExactParsePackageSpec)) fnExactParsePackageUptoCard
end Rows
end Go.Proofs.YtcfhnaohbaplhaaGreatDoor
