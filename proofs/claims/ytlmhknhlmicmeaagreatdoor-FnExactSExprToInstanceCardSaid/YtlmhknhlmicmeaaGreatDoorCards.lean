/-
  DERIVED. GIVEN WITH THE SEED: THE CARDS: each row of YtlmhknhlmicmeaaGreatDoorRows.lean that lists a variable, with what it lists TIED to the program's text (the seventh form; the later family's looks); each row that meets fmt, with fmt's text TOLD by the authors' own Lean function (tested against real Go, not proved from fmt's source: count such statements apart). THE CARD IS WHAT COUNTS. Prove the row's statement (the work); the ties are given (YtlmhknhlmicmeaaGreatDoorTie.lean); close each card by the builder's one call (the guide's Derived/Test/ToyasCard.lean, 'card_holds'). Laid BY PROGRAM, IN A SANDBOX (cutbox-door.mjs). By AI agents, Wed Nov 11 2026. No macro, syntax, notation, axiom, sorry.
-/
import Derived.Test.YtlmhknhlmicmeaaGreatDoorRows
import GoSem.ClaimSeven
namespace Go.Proofs.YtlmhknhlmicmeaaGreatDoor
namespace Rows

/-- THE TIED CARD OF 'laws.FnExactPackageToSExpr'. -/
def fnExactPackageToSExprCard : Claim7 := { stood := { row := fnExactPackageToSExprRow, standIns := [], harness := (true, "6386e9004562b7b3393a6da951c5c4ed9da65910eabdb57ec88ad16f439e0525"), looks := true }, kinds := [], alts := [], laidByText := true, laidKinds := [.data, .data, .data], laidTests := true, laidLooks := .later }
def FnExactPackageToSExprCardSaid : Prop := Claim7.holds Tryz.pinned (.plain (OpenSpec.ofChange fnExactPackageToSExprSpec)) fnExactPackageToSExprCard

/-- THE TIED CARD OF 'laws.FnExactFormatExpr'. -/
def fnExactFormatExprCard : Claim7 := { stood := { row := fnExactFormatExprRow, standIns := [], harness := (true, "6386e9004562b7b3393a6da951c5c4ed9da65910eabdb57ec88ad16f439e0525"), looks := true }, kinds := [], alts := [], laidByText := true, laidKinds := [.data, .data, .data], laidTests := true, laidLooks := .later }
def FnExactFormatExprCardSaid : Prop := Claim7.holds Tryz.pinned (.plain (OpenSpec.ofChange fnExactFormatExprSpec)) fnExactFormatExprCard

/-- THE TIED CARD OF 'laws.FnExactFormatPackage'. -/
def fnExactFormatPackageCard : Claim7 := { stood := { row := fnExactFormatPackageRow, standIns := [], harness := (true, "6386e9004562b7b3393a6da951c5c4ed9da65910eabdb57ec88ad16f439e0525"), looks := true }, kinds := [], alts := [], laidByText := true, laidKinds := [.data, .data, .data], laidTests := true, laidLooks := .later }
def FnExactFormatPackageCardSaid : Prop := Claim7.holds Tryz.pinned (.plain (OpenSpec.ofChange fnExactFormatPackageSpec)) fnExactFormatPackageCard

/-- THE TIED CARD OF 'laws.FnExactSExprToExpr'. -/
def fnExactSExprToExprCard : Claim7 := { stood := { row := fnExactSExprToExprRow, standIns := [], harness := (true, "6386e9004562b7b3393a6da951c5c4ed9da65910eabdb57ec88ad16f439e0525"), looks := true }, kinds := [], alts := [], laidByText := true, laidKinds := [.data, .data, .data, .sentinel, .sentinel], laidTests := true, laidLooks := .later }
def FnExactSExprToExprCardSaid : Prop := Claim7.holds Tryz.pinned (.plain (OpenSpec.ofChange fnExactSExprToExprSpec)) fnExactSExprToExprCard

/-- THE TIED CARD OF 'laws.FnExactSExprToFunction'. -/
def fnExactSExprToFunctionCard : Claim7 := { stood := { row := fnExactSExprToFunctionRow, standIns := [], harness := (true, "6386e9004562b7b3393a6da951c5c4ed9da65910eabdb57ec88ad16f439e0525"), looks := true }, kinds := [], alts := [], laidByText := true, laidKinds := [.data, .data, .data, .sentinel, .sentinel], laidTests := true, laidLooks := .later }
def FnExactSExprToFunctionCardSaid : Prop := Claim7.holds Tryz.pinned (.plain (OpenSpec.ofChange fnExactSExprToFunctionSpec)) fnExactSExprToFunctionCard

/-- THE TIED CARD OF 'laws.FnExactSExprToTrait'. -/
def fnExactSExprToTraitCard : Claim7 := { stood := { row := fnExactSExprToTraitRow, standIns := [], harness := (true, "6386e9004562b7b3393a6da951c5c4ed9da65910eabdb57ec88ad16f439e0525"), looks := true }, kinds := [], alts := [], laidByText := true, laidKinds := [.data, .data, .data, .sentinel, .sentinel], laidTests := true, laidLooks := .later }
def FnExactSExprToTraitCardSaid : Prop := Claim7.holds Tryz.pinned (.plain (OpenSpec.ofChange fnExactSExprToTraitSpec)) fnExactSExprToTraitCard

/-- THE TIED CARD OF 'laws.FnExactSExprToInstance'. -/
def fnExactSExprToInstanceCard : Claim7 := { stood := { row := fnExactSExprToInstanceRow, standIns := [], harness := (true, "6386e9004562b7b3393a6da951c5c4ed9da65910eabdb57ec88ad16f439e0525"), looks := true }, kinds := [], alts := [], laidByText := true, laidKinds := [.data, .data, .data, .sentinel, .sentinel], laidTests := true, laidLooks := .later }
def FnExactSExprToInstanceCardSaid : Prop := Claim7.holds Tryz.pinned (.plain (OpenSpec.ofChange fnExactSExprToInstanceSpec)) fnExactSExprToInstanceCard

/-- THE SECOND FORM's CARD OF 'laws.FnExactPackageToSExpr'. -/
def fnExactPackageToSExprUptoCard : Claim7 := { stood := { row := fnExactPackageToSExprUptoRow, standIns := [], harness := (true, "6386e9004562b7b3393a6da951c5c4ed9da65910eabdb57ec88ad16f439e0525"), looks := true }, kinds := [], alts := [], laidByText := true, laidKinds := [.data, .data, .data], laidTests := true, laidLooks := .later }
def FnExactPackageToSExprUptoCardSaid : Prop := Claim7.holds Tryz.pinned (.plain (OpenSpec.upto fnExactPackageToSExprSpec)) fnExactPackageToSExprUptoCard

/-- THE SECOND FORM's CARD OF 'laws.FnExactFormatExpr'. -/
def fnExactFormatExprUptoCard : Claim7 := { stood := { row := fnExactFormatExprUptoRow, standIns := [], harness := (true, "6386e9004562b7b3393a6da951c5c4ed9da65910eabdb57ec88ad16f439e0525"), looks := true }, kinds := [], alts := [], laidByText := true, laidKinds := [.data, .data, .data], laidTests := true, laidLooks := .later }
def FnExactFormatExprUptoCardSaid : Prop := Claim7.holds Tryz.pinned (.plain (OpenSpec.upto fnExactFormatExprSpec)) fnExactFormatExprUptoCard

/-- THE SECOND FORM's CARD OF 'laws.FnExactFormatPackage'. -/
def fnExactFormatPackageUptoCard : Claim7 := { stood := { row := fnExactFormatPackageUptoRow, standIns := [], harness := (true, "6386e9004562b7b3393a6da951c5c4ed9da65910eabdb57ec88ad16f439e0525"), looks := true }, kinds := [], alts := [], laidByText := true, laidKinds := [.data, .data, .data], laidTests := true, laidLooks := .later }
def FnExactFormatPackageUptoCardSaid : Prop := Claim7.holds Tryz.pinned (.plain (OpenSpec.upto fnExactFormatPackageSpec)) fnExactFormatPackageUptoCard

/-- THE SECOND FORM's CARD OF 'laws.FnExactSExprToExpr'. -/
def fnExactSExprToExprUptoCard : Claim7 := { stood := { row := fnExactSExprToExprUptoRow, standIns := [], harness := (true, "6386e9004562b7b3393a6da951c5c4ed9da65910eabdb57ec88ad16f439e0525"), looks := true }, kinds := [], alts := [], laidByText := true, laidKinds := [.data, .data, .data, .sentinel, .sentinel], laidTests := true, laidLooks := .later }
def FnExactSExprToExprUptoCardSaid : Prop := Claim7.holds Tryz.pinned (.plain (OpenSpec.upto fnExactSExprToExprSpec)) fnExactSExprToExprUptoCard

/-- THE SECOND FORM's CARD OF 'laws.FnExactSExprToFunction'. -/
def fnExactSExprToFunctionUptoCard : Claim7 := { stood := { row := fnExactSExprToFunctionUptoRow, standIns := [], harness := (true, "6386e9004562b7b3393a6da951c5c4ed9da65910eabdb57ec88ad16f439e0525"), looks := true }, kinds := [], alts := [], laidByText := true, laidKinds := [.data, .data, .data, .sentinel, .sentinel], laidTests := true, laidLooks := .later }
def FnExactSExprToFunctionUptoCardSaid : Prop := Claim7.holds Tryz.pinned (.plain (OpenSpec.upto fnExactSExprToFunctionSpec)) fnExactSExprToFunctionUptoCard

/-- THE SECOND FORM's CARD OF 'laws.FnExactSExprToTrait'. -/
def fnExactSExprToTraitUptoCard : Claim7 := { stood := { row := fnExactSExprToTraitUptoRow, standIns := [], harness := (true, "6386e9004562b7b3393a6da951c5c4ed9da65910eabdb57ec88ad16f439e0525"), looks := true }, kinds := [], alts := [], laidByText := true, laidKinds := [.data, .data, .data, .sentinel, .sentinel], laidTests := true, laidLooks := .later }
def FnExactSExprToTraitUptoCardSaid : Prop := Claim7.holds Tryz.pinned (.plain (OpenSpec.upto fnExactSExprToTraitSpec)) fnExactSExprToTraitUptoCard

/-- THE SECOND FORM's CARD OF 'laws.FnExactSExprToInstance'. -/
def fnExactSExprToInstanceUptoCard : Claim7 := { stood := { row := fnExactSExprToInstanceUptoRow, standIns := [], harness := (true, "6386e9004562b7b3393a6da951c5c4ed9da65910eabdb57ec88ad16f439e0525"), looks := true }, kinds := [], alts := [], laidByText := true, laidKinds := [.data, .data, .data, .sentinel, .sentinel], laidTests := true, laidLooks := .later }
def FnExactSExprToInstanceUptoCardSaid : Prop := Claim7.holds Tryz.pinned (.plain (OpenSpec.upto fnExactSExprToInstanceSpec)) fnExactSExprToInstanceUptoCard
end Rows
end Go.Proofs.YtlmhknhlmicmeaaGreatDoor
