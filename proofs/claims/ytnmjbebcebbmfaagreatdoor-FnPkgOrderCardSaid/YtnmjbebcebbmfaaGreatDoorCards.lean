/-
  DERIVED. GIVEN WITH THE SEED: THE CARDS: each row of YtnmjbebcebbmfaaGreatDoorRows.lean that lists a variable, with what it lists TIED to the program's text (the seventh form; the later family's looks); each row that meets fmt, with fmt's text TOLD by the authors' own Lean function (tested against real Go, not proved from fmt's source: count such statements apart). THE CARD IS WHAT COUNTS. Prove the row's statement (the work); the ties are given (YtnmjbebcebbmfaaGreatDoorTie.lean); close each card by the builder's one call (the guide's Derived/Test/ToyasCard.lean, 'card_holds'). Laid BY PROGRAM, IN A SANDBOX (cutbox-door.mjs). By AI agents, Wed Nov 11 2026. No macro, syntax, notation, axiom, sorry.
-/
import Derived.Test.YtnmjbebcebbmfaaGreatDoorRows
import GoSem.ClaimSeven
namespace Go.Proofs.YtnmjbebcebbmfaaGreatDoor
namespace Rows

/-- THE TIED CARD OF 'laws.FnPkgOrder'. -/
def fnPkgOrderCard : Claim7 := { stood := { row := fnPkgOrderRow, standIns := [], harness := (true, "c6771a0960a9323d49d5435416b105b0e257ea676b40444926ab9abd533fd5c4"), looks := true }, kinds := [], alts := [], laidByText := true, laidKinds := [.data, .data, .data, .sentinel, .sentinel], laidTests := true, laidLooks := .later }
def FnPkgOrderCardSaid : Prop := Claim7.holds Tryz.pinned (.plain (OpenSpec.ofChange fnPkgOrderSpec)) fnPkgOrderCard

/-- THE SECOND FORM's CARD OF 'laws.FnPkgOrder'. -/
def fnPkgOrderUptoCard : Claim7 := { stood := { row := fnPkgOrderUptoRow, standIns := [], harness := (true, "c6771a0960a9323d49d5435416b105b0e257ea676b40444926ab9abd533fd5c4"), looks := true }, kinds := [], alts := [], laidByText := true, laidKinds := [.data, .data, .data, .sentinel, .sentinel], laidTests := true, laidLooks := .later }
def FnPkgOrderUptoCardSaid : Prop := Claim7.holds Tryz.pinned (.plain (OpenSpec.upto fnPkgOrderSpec)) fnPkgOrderUptoCard
end Rows
end Go.Proofs.YtnmjbebcebbmfaaGreatDoor
