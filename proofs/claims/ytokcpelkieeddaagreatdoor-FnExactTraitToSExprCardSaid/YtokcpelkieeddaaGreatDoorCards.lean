/-
  DERIVED. GIVEN WITH THE SEED: THE CARDS: each row of YtokcpelkieeddaaGreatDoorRows.lean that lists a variable, with what it lists TIED to the program's text (the seventh form; the later family's looks); each row that meets fmt, with fmt's text TOLD by the authors' own Lean function (tested against real Go, not proved from fmt's source: count such statements apart). THE CARD IS WHAT COUNTS. Prove the row's statement (the work); the ties are given (YtokcpelkieeddaaGreatDoorTie.lean); close each card by the builder's one call (the guide's Derived/Test/ToyasCard.lean, 'card_holds'). Laid BY PROGRAM, IN A SANDBOX (cutbox-door.mjs). By AI agents, Wed Nov 11 2026. No macro, syntax, notation, axiom, sorry.
-/
import Derived.Test.YtokcpelkieeddaaGreatDoorRows
import GoSem.ClaimSeven
namespace Go.Proofs.YtokcpelkieeddaaGreatDoor
namespace Rows

/-- THE TIED CARD OF 'laws.FnExactExprToSExpr'. -/
def fnExactExprToSExprCard : Claim7 := { stood := { row := fnExactExprToSExprRow, standIns := [], harness := (true, "ed23fbeb3f21fb8e8d33af637db3b674a20a12ab224f5f1f39654ea2ec8f7ae5"), looks := true }, kinds := [], alts := [], laidByText := true, laidKinds := [.data, .data, .data], laidTests := true, laidLooks := .later }
def FnExactExprToSExprCardSaid : Prop := Claim7.holds Tryz.pinned (.plain (OpenSpec.ofChange fnExactExprToSExprSpec)) fnExactExprToSExprCard

/-- THE TIED CARD OF 'laws.FnExactFunctionToSExpr'. -/
def fnExactFunctionToSExprCard : Claim7 := { stood := { row := fnExactFunctionToSExprRow, standIns := [], harness := (true, "ed23fbeb3f21fb8e8d33af637db3b674a20a12ab224f5f1f39654ea2ec8f7ae5"), looks := true }, kinds := [], alts := [], laidByText := true, laidKinds := [.data, .data, .data], laidTests := true, laidLooks := .later }
def FnExactFunctionToSExprCardSaid : Prop := Claim7.holds Tryz.pinned (.plain (OpenSpec.ofChange fnExactFunctionToSExprSpec)) fnExactFunctionToSExprCard

/-- THE TIED CARD OF 'laws.FnExactTraitToSExpr'. -/
def fnExactTraitToSExprCard : Claim7 := { stood := { row := fnExactTraitToSExprRow, standIns := [], harness := (true, "ed23fbeb3f21fb8e8d33af637db3b674a20a12ab224f5f1f39654ea2ec8f7ae5"), looks := true }, kinds := [], alts := [], laidByText := true, laidKinds := [.data, .data, .data], laidTests := true, laidLooks := .later }
def FnExactTraitToSExprCardSaid : Prop := Claim7.holds Tryz.pinned (.plain (OpenSpec.ofChange fnExactTraitToSExprSpec)) fnExactTraitToSExprCard

/-- THE TIED CARD OF 'laws.FnExactInstanceToSExpr'. -/
def fnExactInstanceToSExprCard : Claim7 := { stood := { row := fnExactInstanceToSExprRow, standIns := [], harness := (true, "ed23fbeb3f21fb8e8d33af637db3b674a20a12ab224f5f1f39654ea2ec8f7ae5"), looks := true }, kinds := [], alts := [], laidByText := true, laidKinds := [.data, .data, .data], laidTests := true, laidLooks := .later }
def FnExactInstanceToSExprCardSaid : Prop := Claim7.holds Tryz.pinned (.plain (OpenSpec.ofChange fnExactInstanceToSExprSpec)) fnExactInstanceToSExprCard

/-- THE TIED CARD OF 'laws.FnExactPackageToSExpr'. -/
def fnExactPackageToSExprCard : Claim7 := { stood := { row := fnExactPackageToSExprRow, standIns := [], harness := (true, "ed23fbeb3f21fb8e8d33af637db3b674a20a12ab224f5f1f39654ea2ec8f7ae5"), looks := true }, kinds := [], alts := [], laidByText := true, laidKinds := [.data, .data, .data], laidTests := true, laidLooks := .later }
def FnExactPackageToSExprCardSaid : Prop := Claim7.holds Tryz.pinned (.plain (OpenSpec.ofChange fnExactPackageToSExprSpec)) fnExactPackageToSExprCard

/-- THE TIED CARD OF 'laws.FnExactFormatExpr'. -/
def fnExactFormatExprCard : Claim7 := { stood := { row := fnExactFormatExprRow, standIns := [], harness := (true, "ed23fbeb3f21fb8e8d33af637db3b674a20a12ab224f5f1f39654ea2ec8f7ae5"), looks := true }, kinds := [], alts := [], laidByText := true, laidKinds := [.data, .data, .data], laidTests := true, laidLooks := .later }
def FnExactFormatExprCardSaid : Prop := Claim7.holds Tryz.pinned (.plain (OpenSpec.ofChange fnExactFormatExprSpec)) fnExactFormatExprCard

/-- THE TIED CARD OF 'laws.FnExactFormatPackage'. -/
def fnExactFormatPackageCard : Claim7 := { stood := { row := fnExactFormatPackageRow, standIns := [], harness := (true, "ed23fbeb3f21fb8e8d33af637db3b674a20a12ab224f5f1f39654ea2ec8f7ae5"), looks := true }, kinds := [], alts := [], laidByText := true, laidKinds := [.data, .data, .data], laidTests := true, laidLooks := .later }
def FnExactFormatPackageCardSaid : Prop := Claim7.holds Tryz.pinned (.plain (OpenSpec.ofChange fnExactFormatPackageSpec)) fnExactFormatPackageCard

/-- THE TIED CARD OF 'laws.FnExactSExprToExpr'. -/
def fnExactSExprToExprCard : Claim7 := { stood := { row := fnExactSExprToExprRow, standIns := [], harness := (true, "ed23fbeb3f21fb8e8d33af637db3b674a20a12ab224f5f1f39654ea2ec8f7ae5"), looks := true }, kinds := [], alts := [], laidByText := true, laidKinds := [.data, .data, .data, .sentinel, .sentinel], laidTests := true, laidLooks := .later }
def FnExactSExprToExprCardSaid : Prop := Claim7.holds Tryz.pinned (.plain (OpenSpec.ofChange fnExactSExprToExprSpec)) fnExactSExprToExprCard

/-- THE SECOND FORM's CARD OF 'laws.FnExactExprToSExpr'. -/
def fnExactExprToSExprUptoCard : Claim7 := { stood := { row := fnExactExprToSExprUptoRow, standIns := [], harness := (true, "ed23fbeb3f21fb8e8d33af637db3b674a20a12ab224f5f1f39654ea2ec8f7ae5"), looks := true }, kinds := [], alts := [], laidByText := true, laidKinds := [.data, .data, .data], laidTests := true, laidLooks := .later }
def FnExactExprToSExprUptoCardSaid : Prop := Claim7.holds Tryz.pinned (.plain (OpenSpec.upto fnExactExprToSExprSpec)) fnExactExprToSExprUptoCard

/-- THE SECOND FORM's CARD OF 'laws.FnExactFunctionToSExpr'. -/
def fnExactFunctionToSExprUptoCard : Claim7 := { stood := { row := fnExactFunctionToSExprUptoRow, standIns := [], harness := (true, "ed23fbeb3f21fb8e8d33af637db3b674a20a12ab224f5f1f39654ea2ec8f7ae5"), looks := true }, kinds := [], alts := [], laidByText := true, laidKinds := [.data, .data, .data], laidTests := true, laidLooks := .later }
def FnExactFunctionToSExprUptoCardSaid : Prop := Claim7.holds Tryz.pinned (.plain (OpenSpec.upto fnExactFunctionToSExprSpec)) fnExactFunctionToSExprUptoCard

/-- THE SECOND FORM's CARD OF 'laws.FnExactTraitToSExpr'. -/
def fnExactTraitToSExprUptoCard : Claim7 := { stood := { row := fnExactTraitToSExprUptoRow, standIns := [], harness := (true, "ed23fbeb3f21fb8e8d33af637db3b674a20a12ab224f5f1f39654ea2ec8f7ae5"), looks := true }, kinds := [], alts := [], laidByText := true, laidKinds := [.data, .data, .data], laidTests := true, laidLooks := .later }
def FnExactTraitToSExprUptoCardSaid : Prop := Claim7.holds Tryz.pinned (.plain (OpenSpec.upto fnExactTraitToSExprSpec)) fnExactTraitToSExprUptoCard

/-- THE SECOND FORM's CARD OF 'laws.FnExactInstanceToSExpr'. -/
def fnExactInstanceToSExprUptoCard : Claim7 := { stood := { row := fnExactInstanceToSExprUptoRow, standIns := [], harness := (true, "ed23fbeb3f21fb8e8d33af637db3b674a20a12ab224f5f1f39654ea2ec8f7ae5"), looks := true }, kinds := [], alts := [], laidByText := true, laidKinds := [.data, .data, .data], laidTests := true, laidLooks := .later }
def FnExactInstanceToSExprUptoCardSaid : Prop := Claim7.holds Tryz.pinned (.plain (OpenSpec.upto fnExactInstanceToSExprSpec)) fnExactInstanceToSExprUptoCard

/-- THE SECOND FORM's CARD OF 'laws.FnExactPackageToSExpr'. -/
def fnExactPackageToSExprUptoCard : Claim7 := { stood := { row := fnExactPackageToSExprUptoRow, standIns := [], harness := (true, "ed23fbeb3f21fb8e8d33af637db3b674a20a12ab224f5f1f39654ea2ec8f7ae5"), looks := true }, kinds := [], alts := [], laidByText := true, laidKinds := [.data, .data, .data], laidTests := true, laidLooks := .later }
def FnExactPackageToSExprUptoCardSaid : Prop := Claim7.holds Tryz.pinned (.plain (OpenSpec.upto fnExactPackageToSExprSpec)) fnExactPackageToSExprUptoCard

/-- THE SECOND FORM's CARD OF 'laws.FnExactFormatExpr'. -/
def fnExactFormatExprUptoCard : Claim7 := { stood := { row := fnExactFormatExprUptoRow, standIns := [], harness := (true, "ed23fbeb3f21fb8e8d33af637db3b674a20a12ab224f5f1f39654ea2ec8f7ae5"), looks := true }, kinds := [], alts := [], laidByText := true, laidKinds := [.data, .data, .data], laidTests := true, laidLooks := .later }
def FnExactFormatExprUptoCardSaid : Prop := Claim7.holds Tryz.pinned (.plain (OpenSpec.upto fnExactFormatExprSpec)) fnExactFormatExprUptoCard

/-- THE SECOND FORM's CARD OF 'laws.FnExactFormatPackage'. -/
def fnExactFormatPackageUptoCard : Claim7 := { stood := { row := fnExactFormatPackageUptoRow, standIns := [], harness := (true, "ed23fbeb3f21fb8e8d33af637db3b674a20a12ab224f5f1f39654ea2ec8f7ae5"), looks := true }, kinds := [], alts := [], laidByText := true, laidKinds := [.data, .data, .data], laidTests := true, laidLooks := .later }
def FnExactFormatPackageUptoCardSaid : Prop := Claim7.holds Tryz.pinned (.plain (OpenSpec.upto fnExactFormatPackageSpec)) fnExactFormatPackageUptoCard

/-- THE SECOND FORM's CARD OF 'laws.FnExactSExprToExpr'. -/
def fnExactSExprToExprUptoCard : Claim7 := { stood := { row := fnExactSExprToExprUptoRow, standIns := [], harness := (true, "ed23fbeb3f21fb8e8d33af637db3b674a20a12ab224f5f1f39654ea2ec8f7ae5"), looks := true }, kinds := [], alts := [], laidByText := true, laidKinds := [.data, .data, .data, .sentinel, .sentinel], laidTests := true, laidLooks := .later }
def FnExactSExprToExprUptoCardSaid : Prop := Claim7.holds Tryz.pinned (.plain (OpenSpec.upto fnExactSExprToExprSpec)) fnExactSExprToExprUptoCard
end Rows
end Go.Proofs.YtokcpelkieeddaaGreatDoor
