/-
  DERIVED. GIVEN WITH THE SEED: THE CARDS: each row of YtnceiannponbjaaGreatDoorRows.lean that lists a variable, with what it lists TIED to the program's text (the seventh form; the later family's looks); each row that meets fmt, with fmt's text TOLD by the authors' own Lean function (tested against real Go, not proved from fmt's source: count such statements apart). THE CARD IS WHAT COUNTS. Prove the row's statement (the work); the ties are given (YtnceiannponbjaaGreatDoorTie.lean); close each card by the builder's one call (the guide's Derived/Test/ToyasCard.lean, 'card_holds'). Laid BY PROGRAM, IN A SANDBOX (cutbox-door.mjs). By AI agents, Wed Nov 11 2026. No macro, syntax, notation, axiom, sorry.
-/
import Derived.Test.YtnceiannponbjaaGreatDoorRows
import GoSem.ClaimSeven
namespace Go.Proofs.YtnceiannponbjaaGreatDoor
namespace Rows

/-- THE TIED CARD OF 'laws.FnFnText'. -/
def fnFnTextCard : Claim7 := { stood := { row := fnFnTextRow, standIns := [], harness := (true, "2fa19d386fdaf2bd61b44ae78c37238c73a5b78dfe8ac3bdb75a431d9b7157e4"), looks := true }, kinds := [], alts := [], laidByText := true, laidKinds := [.data, .data, .data, .sentinel, .sentinel], laidTests := true, laidLooks := .later }
def FnFnTextCardSaid : Prop := Claim7.holds Tryz.pinned (.plain (OpenSpec.ofChange fnFnTextSpec)) fnFnTextCard

/-- THE TIED CARD OF 'laws.FnTraitText'. -/
def fnTraitTextCard : Claim7 := { stood := { row := fnTraitTextRow, standIns := [], harness := (true, "2fa19d386fdaf2bd61b44ae78c37238c73a5b78dfe8ac3bdb75a431d9b7157e4"), looks := true }, kinds := [], alts := [], laidByText := true, laidKinds := [.data, .data, .data, .sentinel, .sentinel], laidTests := true, laidLooks := .later }
def FnTraitTextCardSaid : Prop := Claim7.holds Tryz.pinned (.plain (OpenSpec.ofChange fnTraitTextSpec)) fnTraitTextCard

/-- THE TIED CARD OF 'laws.FnInstText'. -/
def fnInstTextCard : Claim7 := { stood := { row := fnInstTextRow, standIns := [], harness := (true, "2fa19d386fdaf2bd61b44ae78c37238c73a5b78dfe8ac3bdb75a431d9b7157e4"), looks := true }, kinds := [], alts := [], laidByText := true, laidKinds := [.data, .data, .data, .sentinel, .sentinel], laidTests := true, laidLooks := .later }
def FnInstTextCardSaid : Prop := Claim7.holds Tryz.pinned (.plain (OpenSpec.ofChange fnInstTextSpec)) fnInstTextCard

/-- THE SECOND FORM's CARD OF 'laws.FnFnText'. -/
def fnFnTextUptoCard : Claim7 := { stood := { row := fnFnTextUptoRow, standIns := [], harness := (true, "2fa19d386fdaf2bd61b44ae78c37238c73a5b78dfe8ac3bdb75a431d9b7157e4"), looks := true }, kinds := [], alts := [], laidByText := true, laidKinds := [.data, .data, .data, .sentinel, .sentinel], laidTests := true, laidLooks := .later }
def FnFnTextUptoCardSaid : Prop := Claim7.holds Tryz.pinned (.plain (OpenSpec.upto fnFnTextSpec)) fnFnTextUptoCard

/-- THE SECOND FORM's CARD OF 'laws.FnTraitText'. -/
def fnTraitTextUptoCard : Claim7 := { stood := { row := fnTraitTextUptoRow, standIns := [], harness := (true, "2fa19d386fdaf2bd61b44ae78c37238c73a5b78dfe8ac3bdb75a431d9b7157e4"), looks := true }, kinds := [], alts := [], laidByText := true, laidKinds := [.data, .data, .data, .sentinel, .sentinel], laidTests := true, laidLooks := .later }
def FnTraitTextUptoCardSaid : Prop := Claim7.holds Tryz.pinned (.plain (OpenSpec.upto fnTraitTextSpec)) fnTraitTextUptoCard

/-- THE SECOND FORM's CARD OF 'laws.FnInstText'. -/
def fnInstTextUptoCard : Claim7 := { stood := { row := fnInstTextUptoRow, standIns := [], harness := (true, "2fa19d386fdaf2bd61b44ae78c37238c73a5b78dfe8ac3bdb75a431d9b7157e4"), looks := true }, kinds := [], alts := [], laidByText := true, laidKinds := [.data, .data, .data, .sentinel, .sentinel], laidTests := true, laidLooks := .later }
def FnInstTextUptoCardSaid : Prop := Claim7.holds Tryz.pinned (.plain (OpenSpec.upto fnInstTextSpec)) fnInstTextUptoCard
end Rows
end Go.Proofs.YtnceiannponbjaaGreatDoor
