/-
  DERIVED. GIVEN WITH THE SEED: THE CARDS: each row of YtbaefeecjjhhkaaGreatDoorRows.lean that lists a variable, with what it lists TIED to the program's text (the seventh form; the later family's looks); each row that meets fmt, with fmt's text TOLD by the authors' own Lean function (tested against real Go, not proved from fmt's source: count such statements apart). THE CARD IS WHAT COUNTS. Prove the row's statement (the work); the ties are given (YtbaefeecjjhhkaaGreatDoorTie.lean); close each card by the builder's one call (the guide's Derived/Test/ToyasCard.lean, 'card_holds'). Laid BY PROGRAM, IN A SANDBOX (cutbox-door.mjs). By AI agents, Wed Nov 11 2026. No macro, syntax, notation, axiom, sorry.
-/
import Derived.Test.YtbaefeecjjhhkaaGreatDoorRows
import GoSem.ClaimSeven
namespace Go.Proofs.YtbaefeecjjhhkaaGreatDoor
namespace Rows

/-- THE TIED CARD OF 'laws.FnWorldText'. -/
def fnWorldTextCard : Claim7 := { stood := { row := fnWorldTextRow, standIns := [], harness := (true, "abd2f64a48df9a15b06e61bd0cd65042a5ecb741377ec487b18deadbe87c84e1"), looks := true }, kinds := [], alts := [], laidByText := true, laidKinds := [.data, .data, .data, .data, .sentinel, .sentinel, .pinned], laidTests := true, laidLooks := .later }
def FnWorldTextCardSaid : Prop := Claim7.holds Tryz.pinned (.plain (OpenSpec.ofChange fnWorldTextSpec)) fnWorldTextCard

/-- THE SECOND FORM's CARD OF 'laws.FnWorldText'. -/
def fnWorldTextUptoCard : Claim7 := { stood := { row := fnWorldTextUptoRow, standIns := [], harness := (true, "abd2f64a48df9a15b06e61bd0cd65042a5ecb741377ec487b18deadbe87c84e1"), looks := true }, kinds := [], alts := [], laidByText := true, laidKinds := [.data, .data, .data, .data, .sentinel, .sentinel, .pinned], laidTests := true, laidLooks := .later }
def FnWorldTextUptoCardSaid : Prop := Claim7.holds Tryz.pinned (.plain (OpenSpec.upto fnWorldTextSpec)) fnWorldTextUptoCard
end Rows
end Go.Proofs.YtbaefeecjjhhkaaGreatDoor
