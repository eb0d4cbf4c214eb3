/-
  DERIVED. GIVEN WITH THE SEED: THE CARDS: each row of YtlaaknnkeidlbaaGreatDoorRows.lean that lists a variable, with what it lists TIED to the program's text (the seventh form; the later family's looks); each row that meets fmt, with fmt's text TOLD by the authors' own Lean function (tested against real Go, not proved from fmt's source: count such statements apart). THE CARD IS WHAT COUNTS. Prove the row's statement (the work); the ties are given (YtlaaknnkeidlbaaGreatDoorTie.lean); close each card by the builder's one call (the guide's Derived/Test/ToyasCard.lean, 'card_holds'). Laid BY PROGRAM, IN A SANDBOX (cutbox-door.mjs). By AI agents, Wed Nov 11 2026. No macro, syntax, notation, axiom, sorry.
-/
import Derived.Test.YtlaaknnkeidlbaaGreatDoorRows
import GoSem.ClaimSeven
namespace Go.Proofs.YtlaaknnkeidlbaaGreatDoor
namespace Rows

/-- THE TIED CARD OF 'laws.FnExprText'. -/
def fnExprTextCard : Claim7 := { stood := { row := fnExprTextRow, standIns := [], harness := (true, "dd816b5ee1e7ab2dacd266207d84a00dee1847a7f253b3a41867ad1f55198e51"), looks := true }, kinds := [], alts := [], laidByText := true, laidKinds := [.data, .data, .data, .sentinel, .sentinel], laidTests := true, laidLooks := .later }
def FnExprTextCardSaid : Prop := Claim7.holds Tryz.pinned (.plain (OpenSpec.ofChange fnExprTextSpec)) fnExprTextCard

/-- THE TIED CARD OF 'laws.FnPkgText'. -/
def fnPkgTextCard : Claim7 := { stood := { row := fnPkgTextRow, standIns := [], harness := (true, "dd816b5ee1e7ab2dacd266207d84a00dee1847a7f253b3a41867ad1f55198e51"), looks := true }, kinds := [], alts := [], laidByText := true, laidKinds := [.data, .data, .data, .sentinel, .sentinel], laidTests := true, laidLooks := .later }
def FnPkgTextCardSaid : Prop := Claim7.holds Tryz.pinned (.plain (OpenSpec.ofChange fnPkgTextSpec)) fnPkgTextCard

/-- THE TIED CARD OF 'laws.FnPkgOrder'. -/
def fnPkgOrderCard : Claim7 := { stood := { row := fnPkgOrderRow, standIns := [], harness := (true, "dd816b5ee1e7ab2dacd266207d84a00dee1847a7f253b3a41867ad1f55198e51"), looks := true }, kinds := [], alts := [], laidByText := true, laidKinds := [.data, .data, .data, .sentinel, .sentinel], laidTests := true, laidLooks := .later }
def FnPkgOrderCardSaid : Prop := Claim7.holds Tryz.pinned (.plain (OpenSpec.ofChange fnPkgOrderSpec)) fnPkgOrderCard

/-- THE SECOND FORM's CARD OF 'laws.FnExprText'. -/
def fnExprTextUptoCard : Claim7 := { stood := { row := fnExprTextUptoRow, standIns := [], harness := (true, "dd816b5ee1e7ab2dacd266207d84a00dee1847a7f253b3a41867ad1f55198e51"), looks := true }, kinds := [], alts := [], laidByText := true, laidKinds := [.data, .data, .data, .sentinel, .sentinel], laidTests := true, laidLooks := .later }
def FnExprTextUptoCardSaid : Prop := Claim7.holds Tryz.pinned (.plain (OpenSpec.upto fnExprTextSpec)) fnExprTextUptoCard

/-- THE SECOND FORM's CARD OF 'laws.FnPkgText'. -/
def fnPkgTextUptoCard : Claim7 := { stood := { row := fnPkgTextUptoRow, standIns := [], harness := (true, "dd816b5ee1e7ab2dacd266207d84a00dee1847a7f253b3a41867ad1f55198e51"), looks := true }, kinds := [], alts := [], laidByText := true, laidKinds := [.data, .data, .data, .sentinel, .sentinel], laidTests := true, laidLooks := .later }
def FnPkgTextUptoCardSaid : Prop := Claim7.holds Tryz.pinned (.plain (OpenSpec.upto fnPkgTextSpec)) fnPkgTextUptoCard

/-- THE SECOND FORM's CARD OF 'laws.FnPkgOrder'. -/
def fnPkgOrderUptoCard : Claim7 := { stood := { row := fnPkgOrderUptoRow, standIns := [], harness := (true, "dd816b5ee1e7ab2dacd266207d84a00dee1847a7f253b3a41867ad1f55198e51"), looks := true }, kinds := [], alts := [], laidByText := true, laidKinds := [.data, .data, .data, .sentinel, .sentinel], laidTests := true, laidLooks := .later }
def FnPkgOrderUptoCardSaid : Prop := Claim7.holds Tryz.pinned (.plain (OpenSpec.upto fnPkgOrderSpec)) fnPkgOrderUptoCard
end Rows
end Go.Proofs.YtlaaknnkeidlbaaGreatDoor
