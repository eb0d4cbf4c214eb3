/-
  DERIVED. GIVEN WITH THE SEED: THE CARDS: each row of YtokkjobjffhfjaaGreatDoorRows.lean that lists a variable, with what it lists TIED to the program's text (the seventh form; the later family's looks); each row that meets fmt, with fmt's text TOLD by the authors' own Lean function (tested against real Go, not proved from fmt's source: count such statements apart). THE CARD IS WHAT COUNTS. Prove the row's statement (the work); the ties are given (YtokkjobjffhfjaaGreatDoorTie.lean); close each card by the builder's one call (the guide's Derived/Test/ToyasCard.lean, 'card_holds'). Laid BY PROGRAM, IN A SANDBOX (cutbox-door.mjs). By AI agents, Wed Nov 11 2026. No macro, syntax, notation, axiom, sorry.
-/
import Derived.Test.YtokkjobjffhfjaaGreatDoorRows
import GoSem.ClaimSeven
namespace Go.Proofs.YtokkjobjffhfjaaGreatDoor
namespace Rows

/-- THE TIED CARD OF 'laws.FnExactParseExpr'. -/
def fnExactParseExprCard : Claim7 := { stood := { row := fnExactParseExprRow, standIns := [], harness := (true, "0fcf52bcf0d0be68b8ffd7c278371f6bde0b7a143f87d77fded6c39ad1e127b2"), looks := true }, kinds := [], alts := [], laidByText := true, laidKinds := [.data, .data, .data, .sentinel, .sentinel], laidTests := true, laidLooks := .later }
def FnExactParseExprCardSaid : Prop := Claim7.holds Tryz.pinned (.plain (OpenSpec.ofChange fnExactParseExprSpec)) fnExactParseExprCard

/-- THE TIED CARD OF 'laws.FnExactParsePackage'. -/
def fnExactParsePackageCard : Claim7 := { stood := { row := fnExactParsePackageRow, standIns := [], harness := (true, "0fcf52bcf0d0be68b8ffd7c278371f6bde0b7a143f87d77fded6c39ad1e127b2"), looks := true }, kinds := [], alts := [], laidByText := true, laidKinds := [.data, .data, .data, .sentinel, .sentinel], laidTests := true, laidLooks := .later }
def FnExactParsePackageCardSaid : Prop := Claim7.holds Tryz.pinned (.plain (OpenSpec.ofChange fnExactParsePackageSpec)) fnExactParsePackageCard

/-- THE TIED CARD OF 'laws.FnExactParseProgram'. -/
def fnExactParseProgramCard : Claim7 := { stood := { row := fnExactParseProgramRow, standIns := [], harness := (true, "0fcf52bcf0d0be68b8ffd7c278371f6bde0b7a143f87d77fded6c39ad1e127b2"), looks := true }, kinds := [], alts := [], laidByText := true, laidKinds := [.data, .data, .data, .data, .sentinel, .sentinel, .pinned], laidTests := true, laidLooks := .later }
def FnExactParseProgramCardSaid : Prop := Claim7.holds Tryz.pinned (.plain (OpenSpec.ofChange fnExactParseProgramSpec)) fnExactParseProgramCard

/-- THE SECOND FORM's CARD OF 'laws.FnExactParseExpr'. -/
def fnExactParseExprUptoCard : Claim7 := { stood := { row := fnExactParseExprUptoRow, standIns := [], harness := (true, "0fcf52bcf0d0be68b8ffd7c278371f6bde0b7a143f87d77fded6c39ad1e127b2"), looks := true }, kinds := [], alts := [], laidByText := true, laidKinds := [.data, .data, .data, .sentinel, .sentinel], laidTests := true, laidLooks := .later }
def FnExactParseExprUptoCardSaid : Prop := Claim7.holds Tryz.pinned (.plain (OpenSpec.upto fnExactParseExprSpec)) fnExactParseExprUptoCard

/-- THE SECOND FORM's CARD OF 'laws.FnExactParsePackage'. -/
def fnExactParsePackageUptoCard : Claim7 := { stood := { row := fnExactParsePackageUptoRow, standIns := [], harness := (true, "0fcf52bcf0d0be68b8ffd7c278371f6bde0b7a143f87d77fded6c39ad1e127b2"), looks := true }, kinds := [], alts := [], laidByText := true, laidKinds := [.data, .data, .data, .sentinel, .sentinel], laidTests := true, laidLooks := .later }
def FnExactParsePackageUptoCardSaid : Prop := Claim7.holds Tryz.pinned (.plain (OpenSpec.upto fnExactParsePackageSpec)) fnExactParsePackageUptoCard

/-- THE SECOND FORM's CARD OF 'laws.FnExactParseProgram'. -/
def fnExactParseProgramUptoCard : Claim7 := { stood := { row := fnExactParseProgramUptoRow, standIns := [], harness := (true, "0fcf52bcf0d0be68b8ffd7c278371f6bde0b7a143f87d77fded6c39ad1e127b2"), looks := true }, kinds := [], alts := [], laidByText := true, laidKinds := [.data, .data, .data, .data, .sentinel, .sentinel, .pinned], laidTests := true, laidLooks := .later }
def FnExactParseProgramUptoCardSaid : Prop := Claim7.holds Tryz.pinned (.plain (OpenSpec.upto fnExactParseProgramSpec)) fnExactParseProgramUptoCard
end Rows
end Go.Proofs.YtokkjobjffhfjaaGreatDoor
