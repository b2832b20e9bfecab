/-
  DERIVED. GIVEN WITH THE SEED: THE CARDS: each row of YtneeeaafhjaooaaGreatDoorRows.lean that lists a variable, with what it lists TIED to the program's text (the seventh form; the later family's looks); each row that meets fmt, with fmt's text TOLD by the authors' own Lean function (tested against real Go, not proved from fmt's source: count such statements apart). THE CARD IS WHAT COUNTS. Prove the row's statement (the work); the ties are given (YtneeeaafhjaooaaGreatDoorTie.lean); close each card by the builder's one call (the guide's Derived/Test/ToyasCard.lean, 'card_holds'). Laid BY PROGRAM, IN A SANDBOX (cutbox-door.mjs). By AI agents, Wed Nov 11 2026. No macro, syntax, notation, axiom, sorry.
-/
import Derived.Test.YtneeeaafhjaooaaGreatDoorRows
import GoSem.ClaimSeven
namespace Go.Proofs.YtneeeaafhjaooaaGreatDoor
namespace Rows

/-- THE TIED CARD OF 'tabardlaw7.DecimalMakes'. -/
def decimalMakesCard : Claim7 := { stood := { row := decimalMakesRow, standIns := [], harness := (true, "faac66d5acf7418d826febebaca4ff92284430058e71868ffb8bd38977096361"), looks := true }, kinds := [], alts := [], laidByText := true, laidKinds := [.data, .data, .data, .data, .sentinel, .sentinel, .pinned], laidTests := true, laidLooks := .later }
def DecimalMakesCardSaid : Prop := Claim7.holds Tryz.pinned (.plain (OpenSpec.ofChange decimalMakesSpec)) decimalMakesCard

/-- THE SECOND FORM's CARD OF 'tabardlaw7.DecimalMakes'. -/
def decimalMakesUptoCard : Claim7 := { stood := { row := decimalMakesUptoRow, standIns := [], harness := (true, "faac66d5acf7418d826febebaca4ff92284430058e71868ffb8bd38977096361"), looks := true }, kinds := [], alts := [], laidByText := true, laidKinds := [.data, .data, .data, .data, .sentinel, .sentinel, .pinned], laidTests := true, laidLooks := .later }
def DecimalMakesUptoCardSaid : Prop := Claim7.holds Tryz.pinned (.plain (OpenSpec.upto decimalMakesSpec)) decimalMakesUptoCard
end Rows
end Go.Proofs.YtneeeaafhjaooaaGreatDoor
